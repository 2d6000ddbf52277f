/- Walks over package amortcostref22, linear forms: small, ValidLin, Coef, inserted, Mentioned, ValidFacts. -/
import Derived.Test.YtbbjgagpbffooaaGreatA10
import Derived.Test.YtbbjgagpbffooaaGreatEn2
set_option linter.unusedVariables false
namespace Go.Eng
open Go.Proofs Num Lp
theorem ins_split {x : Int} : ∀ {l : List Int} {i : Nat}, i ≤ l.length → (∀ (j : Nat) (y : Int), j < i → l[j]? = some y → y < x) → insA l x = l.take i ++ insA (l.drop i) x
  | l, 0, _, _ => rfl
  | [], i + 1, h, _ => by simp at h
  | y :: l, i + 1, h, hl => by
    have h1 : y < x := hl 0 y (by omega) rfl
    have ih := ins_split (x := x) (l := l) (i := i) (by simpa using h) fun j z hj hz => hl (j + 1) z (by omega) (by simpa using hz)
    rw [insA, if_pos h1, ih]; rfl
theorem ins_at {x : Int} {l : List Int} {i : Nat} (h : i ≤ l.length) (hl : ∀ (j : Nat) (y : Int), j < i → l[j]? = some y → y < x) (h2 : ∀ y, l[i]? = some y → x < y) : insA l x = (l.take i ++ [x]) ++ l.drop i := by
  rw [ins_split h hl, List.append_assoc]
  congr 1
  by_cases e : i < l.length
  · rw [List.drop_eq_getElem_cons e]
    have := h2 _ (List.getElem?_eq_getElem e)
    rw [insA, if_neg (by omega), if_neg (by omega)]; rfl
  · rw [List.drop_eq_nil_of_le (by omega)]; rfl
theorem ins_in {x : Int} {l : List Int} {i : Nat} (hl : ∀ (j : Nat) (y : Int), j < i → l[j]? = some y → y < x) (h2 : l[i]? = some x) : insA l x = l := by
  have e := (List.getElem?_eq_some_iff.1 h2).1
  have h3 : insA (l.drop i) x = l.drop i := by
    rw [List.drop_eq_getElem_cons e, (List.getElem?_eq_some_iff.1 h2).2, insA, if_neg (Int.lt_irrefl _), if_pos rfl]
  rw [ins_split (by omega) hl, h3, List.take_append_drop]
theorem rsmall_ok {H : Heap} {n : Int} :
  Fn Tryz.prog 55 #[.int .i64 n] H (RetE H (.bool (decide (-1048576 ≤ n ∧ n ≤ 1048576)))) := by
 refine fn_intro (args := [_]) Tryz.func55 rfl rfl Tryz.ntmps55 rfl rfl fun w0 => ?_; refine vc_keep [0] rfl ?_; refine vc_sr ?_; refine vr 1 ?_; refine vco_k [0] ?_
 by_cases h1 : -1048576 ≤ n
 ·
  skip
  refine vc_sr ?_; refine vr 1 ?_; refine vco_cmp true rfl rfl (cge_t h1) ?_; refine vr 5 ?_; refine vco_k [2] ?_; refine vc_ret ⟨.inr rfl, _, .tmp rfl (.nil), ?_⟩; exact ⟨rfl, congrArg Value.bool (by simp [h1])⟩
 ·
  skip
  refine vc_sr ?_; refine vr 1 ?_; refine vco_cmp false rfl rfl (cge_f (by omega)) ?_; refine vr 5 ?_; refine vco_k [2] ?_; refine vc_ret ⟨.inr rfl, _, .tmp rfl (.nil), ?_⟩; exact ⟨rfl, congrArg Value.bool (by simp [h1])⟩
theorem rvalidlin_ok {H : Heap} {f : Lin} {A : Option Addr} {c : Nat} (hf : SlV TermP 2 H (.slice A f.ts.length c) f.ts) :
  Fn Tryz.prog 28 #[.agg #[.int .i64 f.c, .slice A f.ts.length c]] H (fun v' H' => H' = H ∧ ∃ b, v' = .bool b ∧ (b = true ↔ LinOk f)) := by
 obtain ⟨A', c', xs, e, hc, hr, hx⟩ := id hf
 cases e
 refine fn_intro (args := [_]) Tryz.func28 rfl rfl Tryz.ntmps28 rfl rfl fun w0 => ?_; refine vc_keep [0] rfl ?_; refine vc_sr ?_; refine vco_box rfl rfl ?_; refine vr 1 ?_; refine vco_k [1] ?_; refine vc_seq ?_
 by_cases h1 : -1048576 ≤ f.c ∧ f.c ≤ 1048576
 ·
  skip
  by_cases h2 : (16 : Int) < (f.ts.length : Int)
  ·
   skip
   refine vc_sr ?_; refine vr 2 ?_; refine vco_call rfl rfl (rsmall_ok.bt (decide_eq_true h1)) ?_; rintro _ H2 ⟨e2, rfl⟩; rw [e2]; refine vr 5 ?_; refine vco_cmp true rfl rfl (cgt_t h2) ?_; refine vr 1 ?_; refine vco_k [1, 14] ?_; refine vc_cond_t rfl ?_; refine vc_sr ?_; refine vr 1 ?_; refine vco_k [2] ?_; refine vc_ret ⟨.inr rfl, _, .tmp rfl (.nil), ?_⟩; exact ⟨rfl, false, rfl, ⟨(fun h => by cases h), fun h => absurd h.len (by omega)⟩⟩
  ·
   skip
   refine vc_sr ?_; refine vr 2 ?_; refine vco_call rfl rfl (rsmall_ok.bt (decide_eq_true h1)) ?_; rintro _ H2 ⟨e2, rfl⟩; rw [e2]; refine vr 5 ?_; refine vco_cmp false rfl rfl (cgt_f (by omega)) ?_; refine vr 1 ?_; refine vco_k [1, 14] ?_; refine vc_cond_f rfl ?_; refine vc_skip ?_; refine vc_keep [1] rfl ?_; refine vc_seq ?_; refine vc_sr ?_; refine vr 4 ?_; refine vco_k [1, 17, 18] ?_; refine vc_block ?_; refine vc_loop1 (fun (i : Nat) => f.ts.length - i) (fun (i : Nat) => put (put (put (emp) 1 (.box [.int .i64 f.c, .slice A f.ts.length c])) 17 (.val (.int .i64 (f.ts.length : Int)))) 18 (.val (.int .i64 (i : Int)))) (fun (i : Nat) H' => H' = H ∧ i ≤ f.ts.length ∧ TOk f.ts i) 0 (⟨rfl, Nat.zero_le _, tok0 _⟩) sub_auto ?_; rintro i H1 ⟨e1, hi, hk⟩; rw [e1]; refine vc_sr ?_; refine vr 1 ?_; refine vco_k [1, 17, 18, 19] ?_; refine vc_seq ?_; refine vc_cond rfl (fun hb => ?_) (fun hb => ?_)
   ·
    have him : i < f.ts.length := by simpa using hb
    obtain ⟨t, ht⟩ : ∃ t, f.ts[i]? = some t := ⟨_, List.getElem?_eq_getElem him⟩; refine vc_skip ?_; refine vc_keep [1, 17, 18] rfl ?_; refine vc_seq ?_; refine vc_block ?_; refine vc_sr ?_; refine vr 2 ?_; refine vco_k [1, 3, 17, 18] ?_; refine vc_sr ?_; refine vr 3 ?_; refine vco_at_st tbOk rfl rfl rfl rfl (hr) rfl (by decide) (term_get hx ht) (by omega) (by omega) fun _ => ?_; refine vco_alloc el51 rfl ?_; obtain ⟨ti, hti, htz⟩ := sz51; refine vco_bstore (.inl ⟨rfl, rfl⟩) rfl rfl rfl hti htz rfl rfl rfl ?_; refine vco_k [1, 3, 4, 17, 18] ?_; refine vc_sd .drawB [0, 1, 2, 3, 4, 5, 6, 7, 8, 9, 10, 11, 12, 13, 14, 15, 16, 17, 18, 19, 20, 21, 22, 23, 24, 25, 26, 27, 28, 29, 30, 31, 32, 33, 34] follows (okM [0, 1, 3, 7, 15, 31, 63, 127, 255, 511, 1023, 2047, 4095, 8191, 16383, 32767, 65535, 131071, 262143, 524287, 1048575, 2097151, 4194303, 8388607, 16777215, 8388607, 41943039, 134217727, 268435455, 536870911, 8388607, 1082130431, 4294967295, 8589934591, 17179869183] (by kernel_rfl)) ?_; refine vr 2 ?_
    by_cases v2 : t.2 = 0
    ·
     skip
     refine vco_cmp true rfl rfl (ceq_t v2) ?_; refine vr 32 ?_; refine vco_k [1, 17, 18, 60] ?_; refine vc_cond_t rfl ?_; refine vc_sr ?_; refine vr 1 ?_; refine vco_k [2] ?_; refine vc_ret ⟨.inr rfl, _, .tmp rfl (.nil), ?_⟩; exact ⟨rfl, false, rfl, ⟨(fun h => by cases h), fun h => absurd v2 (h.term i t ht).1⟩⟩
    ·
     skip
     refine vco_cmp false rfl rfl (ceq_f v2) ?_; refine vr 3 ?_
     by_cases v3 : -1048576 ≤ t.2 ∧ t.2 ≤ 1048576
     ·
      skip
      refine vco_callM rfl rfl (rsmall_ok.bt (decide_eq_true v3)) (fun _ _ h => by first | exact h.le | exact h.1) ?_; rintro _ H2 ⟨e2, rfl⟩; rw [e2]; refine vr 5 ?_
      by_cases v1a : t.1 < -1
      ·
       skip
       refine vco_cmp true rfl rfl (clt_t v1a) ?_; refine vr 22 ?_; refine vco_k [1, 17, 18, 60] ?_; refine vc_cond_t rfl ?_; refine vc_sr ?_; refine vr 1 ?_; refine vco_k [2] ?_; refine vc_ret ⟨.inr rfl, _, .tmp rfl (.nil), ?_⟩; exact ⟨rfl, false, rfl, ⟨(fun h => by cases h), fun h => absurd (h.term i t ht).2.2.2.1 (by omega)⟩⟩
      ·
       skip
       refine vco_cmp false rfl rfl (clt_f (by omega)) ?_; refine vr 4 ?_
       by_cases v1b : 3000 ≤ t.1
       ·
        skip
        refine vco_cmp true rfl rfl (cge_t v1b) ?_; refine vr 17 ?_; refine vco_k [1, 17, 18, 60] ?_; refine vc_cond_t rfl ?_; refine vc_sr ?_; refine vr 1 ?_; refine vco_k [2] ?_; refine vc_ret ⟨.inr rfl, _, .tmp rfl (.nil), ?_⟩; exact ⟨rfl, false, rfl, ⟨(fun h => by cases h), fun h => absurd (h.term i t ht).2.2.2.2 (by omega)⟩⟩
       ·
        skip
        refine vco_cmp false rfl rfl (cge_f (by omega)) ?_; refine vr 3 ?_
        by_cases v4 : i = 0
        ·
         skip
         refine vco_cmp false rfl rfl (cgt_f (by omega)) ?_; refine vr 13 ?_; refine vco_k [1, 17, 18, 60] ?_; refine vc_cond_f rfl ?_; refine vc_skip ?_; refine vc_keep [1, 17, 18] rfl ?_; refine vc_region rfl ?_; refine vco_add rfl rfl ⟨by omega, by omega⟩ ?_; refine vr 1 ?_; refine vco_end ?_; exact ⟨i + 1, by omega, sub_auto, rfl, by omega, hk.next ht ⟨by omega, by omega⟩ v2 v3 fun j a hj ha => by omega⟩
        ·
         obtain ⟨a, ha⟩ : ∃ a, f.ts[i - 1]? = some a := ⟨_, List.getElem?_eq_getElem (by omega)⟩; have hxa := term_get hx ha; refine vco_cmp true rfl rfl (cgt_t (by omega)) ?_; refine vr 4 ?_; refine vco_sub rfl rfl ⟨by omega, by omega⟩ ?_; refine vco_atf tbOk rfl rfl rfl rfl rfl rfl rfl (hr) (by rw [toNat_pred (by omega)]; exact hxa 0 _ rfl) (by omega) (by omega) fun _ _ => ?_; refine vr 2 ?_
         by_cases v5 : a.1 < t.1
         ·
          skip
          refine vco_cmp false rfl rfl (cge_f v5) ?_; refine vr 2 ?_; refine vco_k [1, 17, 18, 60] ?_; refine vc_cond_f rfl ?_; refine vc_skip ?_; refine vc_keep [1, 17, 18] rfl ?_; refine vc_region rfl ?_; refine vco_add rfl rfl ⟨by omega, by omega⟩ ?_; refine vr 1 ?_; refine vco_end ?_; exact ⟨i + 1, by omega, sub_auto, rfl, by omega, hk.next ht ⟨by omega, by omega⟩ v2 v3 fun j b hj hb9 => by (obtain rfl : j = i - 1 := by omega); rw [ha] at hb9; cases hb9; exact v5⟩
         ·
          skip
          refine vco_cmp true rfl rfl (cge_t (by omega)) ?_; refine vr 2 ?_; refine vco_k [1, 17, 18, 60] ?_; refine vc_cond_t rfl ?_; refine vc_sr ?_; refine vr 1 ?_; refine vco_k [2] ?_; refine vc_ret ⟨.inr rfl, _, .tmp rfl (.nil), ?_⟩; exact ⟨rfl, false, rfl, ⟨(fun h => by cases h), fun h => absurd (h.asc (i - 1) a t ha (by rw [show i - 1 + 1 = i by omega]; exact ht)) v5⟩⟩
     ·
      skip
      refine vco_callM rfl rfl (rsmall_ok.bf (decide_eq_false v3)) (fun _ _ h => by first | exact h.le | exact h.1) ?_; rintro _ H2 ⟨e2, rfl⟩; rw [e2]; refine vr 28 ?_; refine vco_k [1, 17, 18, 60] ?_; refine vc_cond_t rfl ?_; refine vc_sr ?_; refine vr 1 ?_; refine vco_k [2] ?_; refine vc_ret ⟨.inr rfl, _, .tmp rfl (.nil), ?_⟩; exact ⟨rfl, false, rfl, ⟨(fun h => by cases h), fun h => absurd ⟨(h.term i t ht).2.1, (h.term i t ht).2.2.1⟩ v3⟩⟩
   ·
    have hb : f.ts.length ≤ i := by simpa using hb
    refine vc_exit ?_; refine vc_keep [] rfl ?_; refine vc_sr ?_; refine vr 1 ?_; refine vco_k [2] ?_; refine vc_ret ⟨.inr rfl, _, .tmp rfl (.nil), ?_⟩
    obtain rfl : i = f.ts.length := by omega
    exact ⟨rfl, true, rfl, ⟨fun _ => hk.lin h1 (by omega), fun _ => rfl⟩⟩
 ·
  skip
  refine vc_sr ?_; refine vr 2 ?_; refine vco_call rfl rfl (rsmall_ok.bf (decide_eq_false h1)) ?_; rintro _ H2 ⟨e2, rfl⟩; rw [e2]; refine vr 7 ?_; refine vco_k [1, 14] ?_; refine vc_cond_t rfl ?_; refine vc_sr ?_; refine vr 1 ?_; refine vco_k [2] ?_; refine vc_ret ⟨.inr rfl, _, .tmp rfl (.nil), ?_⟩; exact ⟨rfl, false, rfl, ⟨(fun h => by cases h), fun h => absurd h.const h1⟩⟩
theorem rcoef_ok {H : Heap} {f : Lin} {A : Option Addr} {c : Nat} {v : Int} (hf : SlV TermP 2 H (.slice A f.ts.length c) f.ts) (hl : f.ts.length ≤ 1000000) :
  Fn Tryz.prog 51 #[.agg #[.int .i64 f.c, .slice A f.ts.length c], .int .i64 v] H (RetE H (.int .i64 (f.coef v))) := by
 obtain ⟨A', c', xs, e, hc, hr, hx⟩ := id hf
 cases e
 refine fn_intro (args := [_, _]) Tryz.func51 rfl rfl Tryz.ntmps51 rfl rfl fun w0 => ?_; refine vc_keep [0, 1] rfl ?_; refine vc_sr ?_; refine vco_box rfl rfl ?_; refine vr 1 ?_; refine vco_k [1, 2] ?_; refine vc_seq ?_; refine vc_sr ?_; refine vr 4 ?_; refine vco_k [1, 2, 8, 9] ?_; refine vc_block ?_; refine vc_loop1 (fun (i : Nat) => f.ts.length - i) (fun (i : Nat) => put (put (put (put (emp) 1 (.val (.int .i64 v))) 2 (.box [.int .i64 f.c, .slice A f.ts.length c])) 8 (.val (.int .i64 (f.ts.length : Int)))) 9 (.val (.int .i64 (i : Int)))) (fun (i : Nat) H' => H' = H ∧ i ≤ f.ts.length ∧ f.coef v = coefT (f.ts.drop i) v) 0 (⟨rfl, Nat.zero_le _, rfl⟩) sub_auto ?_; rintro i H1 ⟨e1, hi, hk⟩; rw [e1]; refine vc_sr ?_; refine vr 1 ?_; refine vco_k [1, 2, 8, 9, 10] ?_; refine vc_seq ?_; refine vc_cond rfl (fun hb => ?_) (fun hb => ?_)
 ·
  have him : i < f.ts.length := by simpa using hb
  obtain ⟨t, ht⟩ : ∃ t, f.ts[i]? = some t := ⟨_, List.getElem?_eq_getElem him⟩
  have hd : f.ts.drop i = t :: f.ts.drop (i + 1) := by rw [List.drop_eq_getElem_cons him, (List.getElem?_eq_some_iff.1 ht).2]
  refine vc_skip ?_; refine vc_keep [1, 2, 8, 9] rfl ?_; refine vc_seq ?_; refine vc_block ?_; refine vc_sr ?_; refine vr 2 ?_; refine vco_k [1, 2, 5, 8, 9] ?_; refine vc_sr ?_; refine vr 3 ?_; refine vco_atf tbOk rfl rfl rfl rfl rfl rfl rfl (hr) (term_get hx ht 0 _ rfl) (by omega) (by omega) fun _ _ => ?_; refine vr 2 ?_; refine vco_k [1, 2, 5, 8, 9, 19] ?_; refine vc_cond rfl (fun hb => ?_) (fun hb => ?_)
  ·
   have h2 : t.1 = v := by simpa using hb
   refine vc_sr ?_; refine vr 3 ?_; refine vco_atf tbOk rfl rfl rfl rfl rfl rfl rfl (hr) (term_get hx ht 1 _ rfl) (by omega) (by omega) fun _ _ => ?_; refine vr 1 ?_; refine vco_k [4] ?_; refine vc_ret ⟨.inr rfl, _, .tmp rfl (.nil), ?_⟩; exact ⟨rfl, by rw [hk, hd, coefT, if_pos h2]; rfl⟩
  ·
   have h2 : ¬ t.1 = v := by simpa using hb
   refine vc_skip ?_; refine vc_keep [1, 2, 8, 9] rfl ?_; refine vc_region rfl ?_; refine vco_add rfl rfl ⟨by omega, by omega⟩ ?_; refine vr 1 ?_; refine vco_end ?_; exact ⟨i + 1, by omega, sub_auto, rfl, by omega, by rw [hk, hd, coefT, if_neg h2]⟩
 ·
  have hb : f.ts.length ≤ i := by simpa using hb
  refine vc_exit ?_; refine vc_keep [] rfl ?_; refine vc_sr ?_; refine vr 1 ?_; refine vco_k [4] ?_; refine vc_ret ⟨.inr rfl, _, .tmp rfl (.nil), ?_⟩; exact ⟨rfl, by rw [hk, List.drop_eq_nil_of_le hb]; rfl⟩
theorem inserted_ok {H : Heap} {l : List Int} {A : Option Addr} {c : Nat} {x : Int} (hv : SlV IntP 1 H (.slice A l.length c) l) (hl : l.length ≤ 2000000) :
  Fn Tryz.prog 66 #[.slice A l.length c, .int .i64 x] H (VarsP (insA l x) H) := by
 obtain ⟨A', c', xs, e, hc, hr, hx⟩ := id hv
 cases e
 refine fn_intro (args := [_, _]) Tryz.func66 rfl rfl Tryz.ntmps66 rfl rfl fun w0 => ?_; refine vc_keep [0, 1] rfl ?_; refine vc_sr ?_; refine vr 1 ?_; refine vco_k [0, 1] ?_; refine vc_sr ?_; refine vr 1 ?_; refine vco_k [0, 1, 5] ?_; refine vc_seq ?_; refine vc_block ?_; refine vc_loop1 (fun (i : Nat) => l.length - i) (fun (i : Nat) => put (put (put (emp) 0 (.val (.slice A l.length c))) 1 (.val (.int .i64 x))) 5 (.val (.int .i64 (i : Int)))) (fun (i : Nat) H' => H' = H ∧ i ≤ l.length ∧ ∀ (j : Nat) (y : Int), j < i → l[j]? = some y → y < x) 0 (⟨rfl, Nat.zero_le _, fun j y h => by omega⟩) sub_auto ?_; rintro i H1 ⟨e1, hi, hk⟩; rw [e1]; refine vc_seq ?_
 by_cases him : i < l.length
 ·
  obtain ⟨y, hy⟩ : ∃ y, l[i]? = some y := ⟨_, List.getElem?_eq_getElem him⟩; refine vc_sr ?_; refine vr 3 ?_; refine vco_cmp true rfl rfl (clt_t (by omega)) ?_; refine vr 3 ?_; refine vco_at tbOk rfl rfl rfl rfl rfl (hr) (by rw [Int.toNat_natCast]; exact int_get hx hy) (by omega) (by omega) fun _ => ?_; refine vr 3 ?_; refine vco_k [0, 1, 5, 17] ?_; refine vc_cond rfl (fun hb => ?_) (fun hb => ?_)
  ·
   have h2 : y < x := by simpa using hb
   refine vc_skip ?_; refine vc_keep [0, 1, 5] rfl ?_; refine vc_block ?_; refine vc_region rfl ?_; refine vr 1 ?_; refine vco_add rfl rfl ⟨by omega, by omega⟩ ?_; refine vr 1 ?_; refine vco_end ?_; exact ⟨i + 1, by omega, sub_auto, rfl, by omega, fun j y9 hj hy9 => by by_cases e : j < i; exact hk j y9 e hy9; (obtain rfl : j = i := by omega); rw [hy] at hy9; cases hy9; exact h2⟩
  ·
   have h2 : ¬ y < x := by simpa using hb
   refine vc_exit ?_; refine vc_keep [0, 1, 5] rfl ?_; refine vc_seq ?_; refine vc_sr ?_; refine vr 3 ?_; refine vco_cmp true rfl rfl (clt_t (by omega)) ?_; refine vr 3 ?_; refine vco_at tbOk rfl rfl rfl rfl rfl (hr) (by rw [Int.toNat_natCast]; exact int_get hx hy) (by omega) (by omega) fun _ => ?_; refine vr 3 ?_; refine vco_k [0, 1, 5, 31] ?_; refine vc_cond rfl (fun hb => ?_) (fun hb => ?_)
   ·
    have h3 : y = x := by simpa using hb
    refine vc_sr ?_; refine vr 2 ?_; refine vco_k [4] ?_; refine vc_ret ⟨.inr rfl, _, .tmp rfl (.nil), ?_⟩; subst h3; exact ⟨.refl _, by rw [ins_in hk hy]; exact ⟨A, c, rfl, hv⟩⟩
   ·
    have h3 : ¬ y = x := by simpa using hb
    refine vc_skip ?_; refine vc_keep [0, 1, 5] rfl ?_; refine vc_sd .drawB [0, 1, 2, 4, 7, 8, 9, 3, 5, 6, 10, 11] follows (by kernel_rfl) ?_; refine vr 2 ?_; refine vco_slice tbOk rfl rfl (.inl ⟨rfl, rfl⟩) (.inr ⟨_, _, rfl, rfl⟩) (by omega) (by omega) ?_; refine vr 3 ?_; refine vco_slice tbOk rfl rfl (.inr ⟨_, _, rfl, rfl⟩) (.inl ⟨rfl, rfl⟩) (by omega) (by omega) ?_; refine vco_app intUp oneInt (by decide) Tryz.underlying57 el3 rfl rfl (gro_nil H) (by rw [blk_nil, rem_nil]; exact hv.upto hi) (by rw [List.length_nil, List.length_take]; omega) (by rw [List.length_nil, List.length_take]; omega) ?_; intro v3 H3 y3 hG3 _; rw [List.nil_append] at hG3; refine vco_build Tryz.underlying57 el3 rfl rfl rfl rfl rfl rfl rfl ?_; intro gb hgb; refine vco_push intUp oneInt Tryz.underlying57 el3 rfl rfl hG3 hgb (show IntP _ [_] x from rfl) rfl (by rw [List.length_take]; omega) (by rw [List.length_take]; omega) ?_; intro v6 H6 y6 hG6 _; refine vco_app intUp oneInt (by decide) Tryz.underlying57 el3 rfl rfl hG6 ((hv.le intUp hG6.base).from hi) (by rw [List.length_append, List.length_take, List.length_drop, List.length_singleton]; omega) (by rw [List.length_append, List.length_take, List.length_drop, List.length_singleton]; omega) ?_; intro v10 H10 y10 hG10 _; have hG10 := hG10.cast (ins_at hi hk fun z hz => by rw [hy] at hz; cases hz; omega).symm; obtain ⟨A10, c10, e10⟩ := hG10.form; refine vr 1 ?_; refine vco_k [4] ?_; refine vc_ret ⟨.inr rfl, _, .tmp rfl (.nil), ?_⟩
    exact ⟨hG10.le, A10, c10, e10, by rw [← e10]; exact hG10.sl intUp⟩
 ·
  skip
  refine vc_sr ?_; refine vr 3 ?_; refine vco_cmp false rfl rfl (clt_f (by omega)) ?_; refine vr 8 ?_; refine vco_k [0, 1, 5, 17] ?_; refine vc_cond_f rfl ?_; refine vc_exit ?_; refine vc_keep [0, 1, 5] rfl ?_; refine vc_seq ?_; refine vc_sr ?_; refine vr 3 ?_; refine vco_cmp false rfl rfl (clt_f (by omega)) ?_; refine vr 8 ?_; refine vco_k [0, 1, 5, 31] ?_; refine vc_cond_f rfl ?_; refine vc_skip ?_; refine vc_keep [0, 1, 5] rfl ?_; refine vc_sd .drawB [0, 1, 2, 4, 7, 8, 9, 3, 5, 6, 10, 11] follows (by kernel_rfl) ?_; refine vr 2 ?_; refine vco_slice tbOk rfl rfl (.inl ⟨rfl, rfl⟩) (.inr ⟨_, _, rfl, rfl⟩) (by omega) (by omega) ?_; refine vr 3 ?_; refine vco_slice tbOk rfl rfl (.inr ⟨_, _, rfl, rfl⟩) (.inl ⟨rfl, rfl⟩) (by omega) (by omega) ?_; refine vco_app intUp oneInt (by decide) Tryz.underlying57 el3 rfl rfl (gro_nil H) (by rw [blk_nil, rem_nil]; exact hv.upto hi) (by rw [List.length_nil, List.length_take]; omega) (by rw [List.length_nil, List.length_take]; omega) ?_; intro v3 H3 y3 hG3 _; rw [List.nil_append] at hG3; refine vco_build Tryz.underlying57 el3 rfl rfl rfl rfl rfl rfl rfl ?_; intro gb hgb; refine vco_push intUp oneInt Tryz.underlying57 el3 rfl rfl hG3 hgb (show IntP _ [_] x from rfl) rfl (by rw [List.length_take]; omega) (by rw [List.length_take]; omega) ?_; intro v6 H6 y6 hG6 _; refine vco_app intUp oneInt (by decide) Tryz.underlying57 el3 rfl rfl hG6 ((hv.le intUp hG6.base).from hi) (by rw [List.length_append, List.length_take, List.length_drop, List.length_singleton]; omega) (by rw [List.length_append, List.length_take, List.length_drop, List.length_singleton]; omega) ?_
  intro v10 H10 y10 hG10 _; have hG10 := hG10.cast (ins_at hi hk fun z hz => by have := (List.getElem?_eq_some_iff.1 hz).1; omega).symm; obtain ⟨A10, c10, e10⟩ := hG10.form; refine vr 1 ?_; refine vco_k [4] ?_; refine vc_ret ⟨.inr rfl, _, .tmp rfl (.nil), ?_⟩; exact ⟨hG10.le, A10, c10, e10, by rw [← e10]; exact hG10.sl intUp⟩
theorem mentioned_ok {H : Heap} {v : Value} {fs : List Lin} (hv : FmV H v fs) (h1 : fs.length ≤ 1000) (h2 : ∀ f, f ∈ fs → f.ts.length ≤ 1000) :
  Fn Tryz.prog 36 #[v] H (VarsP (ment fs) H) := by
 obtain ⟨A, c, xs, rfl, hc, hr, hx⟩ := id hv
 have hmul : fs.length * 1000 ≤ 1000 * 1000 := Nat.mul_le_mul_right _ h1; refine fn_intro (args := [_]) Tryz.func36 rfl rfl Tryz.ntmps36 rfl rfl fun w0 => ?_; refine vc_keep [0] rfl ?_; refine vc_sr ?_; refine vr 1 ?_; refine vco_k [0] ?_; refine vc_sr ?_; refine vr 1 ?_; refine vco_k [0, 3] ?_; refine vc_seq ?_; refine vc_sr ?_; refine vr 3 ?_; refine vco_k [0, 3, 7, 8] ?_; refine vc_block ?_; refine vc_loop2 (fun (i : Nat) (w : Option Addr × Nat × List Int) => fs.length - i) (fun (i : Nat) (w : Option Addr × Nat × List Int) => put (put (put (put (emp) 0 (.val (.slice A fs.length c))) 3 (.val (.slice w.1 w.2.2.length w.2.1))) 7 (.val (.int .i64 (fs.length : Int)))) 8 (.val (.int .i64 (i : Int)))) (fun (i : Nat) (w : Option Addr × Nat × List Int) H' => Heap.le H H' ∧ w.2.2 = ment (fs.take i) ∧ SlV IntP 1 H' (.slice w.1 w.2.2.length w.2.1) w.2.2 ∧ i ≤ fs.length) 0 (none, 0, []) (⟨.refl _, rfl, SlV.nil, Nat.zero_le _⟩) sub_auto ?_; rintro i w H1 ⟨hl1, hw, hs, hi⟩; obtain ⟨W, cw, l⟩ := w
 simp only at hw hs
 refine vc_sr ?_; refine vr 1 ?_; refine vco_k [0, 3, 7, 8, 9] ?_; refine vc_seq ?_; refine vc_cond rfl (fun hb => ?_) (fun hb => ?_)
 ·
  have him : i < fs.length := by simpa using hb
  obtain ⟨f, hf⟩ : ∃ f, fs[i]? = some f := ⟨_, List.getElem?_eq_getElem him⟩; have hlf := h2 f (List.mem_of_getElem? hf); obtain ⟨B, cb, hfs, hxf⟩ := form_get hx hf; obtain ⟨B', cb', xb, e, hcb, hrb, hxb⟩ := id hfs
  cases e
  have hlv := lins_len h2 i
  have hlf2 : (f.ts.map (·.1)).length = f.ts.length := by rw [List.length_map]
  refine vc_skip ?_; refine vc_keep [0, 3, 7, 8] rfl ?_; refine vc_seq ?_; refine vc_block ?_; refine vc_sr ?_; refine vr 2 ?_; refine vco_k [0, 3, 4, 7, 8] ?_; refine vc_sr ?_; refine vr 2 ?_; refine vco_atf tbOk rfl rfl rfl rfl rfl rfl rfl (hr.le hl1) (hxf 1 _ rfl) (by omega) (by omega) fun _ _ => ?_; refine vr 2 ?_; refine vco_k [0, 3, 4, 7, 8, 16, 17] ?_; refine vc_block ?_; refine vc_loop2 (fun (k : Nat) (w : Option Addr × Nat × List Int) => f.ts.length - k) (fun (k : Nat) (w : Option Addr × Nat × List Int) => put (put (put (put (put (put (put (emp) 0 (.val (.slice A fs.length c))) 3 (.val (.slice w.1 w.2.2.length w.2.1))) 4 (.val (.int .i64 (i : Int)))) 7 (.val (.int .i64 (fs.length : Int)))) 8 (.val (.int .i64 (i : Int)))) 16 (.val (.int .i64 (f.ts.length : Int)))) 17 (.val (.int .i64 (k : Int)))) (fun (k : Nat) (w : Option Addr × Nat × List Int) H' => Heap.le H H' ∧ w.2.2 = (allVars (fs.take i) ++ (f.ts.take k).map (·.1)).foldl insA [] ∧ SlV IntP 1 H' (.slice w.1 w.2.2.length w.2.1) w.2.2 ∧ k ≤ f.ts.length) 0 (W, cw, l) (⟨hl1, by rw [hw, show (f.ts.take 0).map (·.1) = [] from rfl, List.append_nil]; rfl, hs, Nat.zero_le _⟩) sub_auto ?_; rintro k w H2 ⟨hl2, hw2, hs2, hk⟩; obtain ⟨W2, cw2, l2⟩ := w
  simp only at hw2 hs2
  have hll : l2.length ≤ 1002000 := by
   have h9 := fold_len (allVars (fs.take i) ++ (f.ts.take k).map (·.1)) []; rw [← hw2, List.length_append, List.length_map, List.length_take] at h9
   simp at h9; omega
  refine vc_sr ?_; refine vr 1 ?_; refine vco_k [0, 3, 4, 7, 8, 16, 17, 18] ?_; refine vc_seq ?_; refine vc_cond rfl (fun hb => ?_) (fun hb => ?_)
  ·
   have hkm : k < f.ts.length := by simpa using hb
   obtain ⟨t, ht⟩ : ∃ t, f.ts[k]? = some t := ⟨_, List.getElem?_eq_getElem hkm⟩; refine vc_skip ?_; refine vc_keep [0, 3, 4, 7, 8, 16, 17] rfl ?_; refine vc_seq ?_; refine vc_block ?_; refine vc_sr ?_; refine vr 2 ?_; refine vco_k [0, 3, 4, 5, 7, 8, 16, 17] ?_; refine vc_region rfl ?_; refine vr 3 ?_; refine vco_atf tbOk rfl rfl rfl rfl rfl rfl rfl (hr.le hl2) (hxf 1 _ rfl) (by omega) (by omega) fun _ _ => ?_; refine vr 1 ?_; refine vco_atf tbOk rfl rfl rfl rfl rfl rfl rfl (hrb.le hl2) (term_get hxb ht 0 _ rfl) (by omega) (by omega) fun _ _ => ?_; refine vco_call rfl rfl (inserted_ok (l := l2) (x := t.1) hs2 (by omega)) ?_; rintro _ H3 ⟨hl3, W3, cw3, rfl, hs3⟩; refine vr 1 ?_; refine vco_end ?_; refine vc_keep [0, 3, 4, 7, 8, 16, 17] rfl ?_; refine vc_region rfl ?_; refine vco_add rfl rfl ⟨by omega, by omega⟩ ?_; refine vr 1 ?_; refine vco_end ?_; exact ⟨k + 1, (_, _, _), by omega, sub_auto, hl2.trans hl3, by rw [tms ht, ← List.append_assoc, List.foldl_append, ← hw2]; rfl, hs3, by omega⟩
  ·
   have hb : f.ts.length ≤ k := by simpa using hb
   obtain rfl : k = f.ts.length := by omega
   rw [List.take_length, show f.ts.map (·.1) = f.vars from rfl, ← take_allVars hf] at hw2; refine vc_exit ?_; refine vc_keep [0, 3, 7, 8] rfl ?_; refine vc_region rfl ?_; refine vco_add rfl rfl ⟨by omega, by omega⟩ ?_; refine vr 1 ?_; refine vco_end ?_; exact ⟨i + 1, (_, _, _), by omega, sub_auto, hl2, by rw [hw2]; rfl, hs2, by omega⟩
 ·
  have hb : fs.length ≤ i := by simpa using hb
  obtain rfl : i = fs.length := by omega
  rw [List.take_length] at hw; subst hw; refine vc_exit ?_; refine vc_keep [3] rfl ?_; refine vc_sr ?_; refine vr 2 ?_; refine vco_k [2] ?_; refine vc_ret ⟨.inr rfl, _, .tmp rfl (.nil), ?_⟩; exact ⟨hl1, W, cw, rfl, hs⟩
theorem rvalidfacts_ok {H : Heap} {v : Value} {fs : List Lin} (hv : FmV H v fs) :
  Fn Tryz.prog 19 #[v] H (fun v' H' => Heap.le H H' ∧ ∃ b, v' = .bool b ∧ (b = true ↔ FactsOk fs)) := by
 obtain ⟨A, c, xs, rfl, hc, hr, hx⟩ := id hv; refine fn_intro (args := [_]) Tryz.func19 rfl rfl Tryz.ntmps19 rfl rfl fun w0 => ?_; refine vc_keep [0] rfl ?_; refine vc_sr ?_; refine vr 1 ?_; refine vco_k [0] ?_; refine vc_seq ?_; refine vc_sr ?_; refine vr 3 ?_; refine vco_k [0, 6] ?_; refine vc_cond rfl (fun hb => ?_) (fun hb => ?_)
 ·
  have h1 : ¬ fs.length ≤ 200 := by have h9 : (200 : Int) < fs.length := (by simpa using hb); omega
  refine vc_sr ?_; refine vr 1 ?_; refine vco_k [2] ?_; refine vc_ret ⟨.inr rfl, _, .tmp rfl (.nil), ?_⟩; exact ⟨.refl _, false, rfl, ⟨(fun h => by cases h), fun h => absurd h.len h1⟩⟩
 ·
  have h1 : fs.length ≤ 200 := by have h9 : (fs.length : Int) ≤ 200 := (by simpa using hb); omega
  refine vc_skip ?_; refine vc_keep [0] rfl ?_; refine vc_seq ?_; refine vc_sr ?_; refine vr 3 ?_; refine vco_k [0, 8, 9] ?_; refine vc_block ?_; refine vc_loop1 (fun (i : Nat) => fs.length - i) (fun (i : Nat) => put (put (put (emp) 0 (.val (.slice A fs.length c))) 8 (.val (.int .i64 (fs.length : Int)))) 9 (.val (.int .i64 (i : Int)))) (fun (i : Nat) H' => H' = H ∧ i ≤ fs.length ∧ ∀ (k : Nat) (f : Lin), k < i → fs[k]? = some f → LinOk f) 0 (⟨rfl, Nat.zero_le _, fun k f h => by omega⟩) sub_auto ?_; rintro i H1 ⟨e1, hi, hk⟩; rw [e1]; refine vc_sr ?_; refine vr 1 ?_; refine vco_k [0, 8, 9, 10] ?_; refine vc_seq ?_; refine vc_cond rfl (fun hb => ?_) (fun hb => ?_)
  ·
   have him : i < fs.length := by simpa using hb
   obtain ⟨f, hf⟩ : ∃ f, fs[i]? = some f := ⟨_, List.getElem?_eq_getElem him⟩; obtain ⟨B, cb, hfs, hxf⟩ := form_get hx hf; refine vc_skip ?_; refine vc_keep [0, 8, 9] rfl ?_; refine vc_seq ?_; refine vc_block ?_; refine vc_sr ?_; refine vr 2 ?_; refine vco_k [0, 3, 8, 9] ?_; refine vc_sr ?_; refine vr 2 ?_; refine vco_at_st tbOk rfl rfl rfl rfl (hr) rfl (by decide) (hxf) (by omega) (by omega) fun _ => ?_; refine vco_call rfl rfl (rvalidlin_ok hfs) ?_; rintro _ H3 ⟨e3, b3, rfl, hb3⟩; rw [e3]; refine vr 1 ?_; refine vco_k [0, 8, 9, 17] ?_; refine vc_cond rfl (fun hb => ?_) (fun hb => ?_)
   ·
    have hbt : ¬ b3 = true := by simpa using hb
    refine vc_sr ?_; refine vr 1 ?_; refine vco_k [2] ?_; refine vc_ret ⟨.inr rfl, _, .tmp rfl (.nil), ?_⟩; exact ⟨.refl _, false, rfl, ⟨(fun h => by cases h), fun h => absurd (hb3.2 (h.ok i f hf)) hbt⟩⟩
   ·
    have hbt : b3 = true := by simpa using hb
    refine vc_skip ?_; refine vc_keep [0, 8, 9] rfl ?_; refine vc_region rfl ?_; refine vco_add rfl rfl ⟨by omega, by omega⟩ ?_; refine vr 1 ?_; refine vco_end ?_; exact ⟨i + 1, by omega, sub_auto, rfl, by omega, fun k f9 h9 hf9 => by by_cases e : k < i; exact hk k f9 e hf9; (obtain rfl : k = i := by omega); rw [hf] at hf9; cases hf9; exact hb3.1 hbt⟩
  ·
   have hb : fs.length ≤ i := by simpa using hb
   have hall : ∀ (k : Nat) (f : Lin), fs[k]? = some f → LinOk f := fun k f h => hk k f (by have := (List.getElem?_eq_some_iff.1 h).1; omega) h; refine vc_exit ?_; refine vc_keep [0] rfl ?_; refine vc_sr ?_; refine vr 1 ?_; refine vco_call rfl rfl (mentioned_ok hv (by omega) (fun f hf => by obtain ⟨k, h9⟩ := List.getElem?_of_mem hf; have := (hall k f h9).len; omega)) ?_; rintro _ H4 ⟨hl4, A4, c4, rfl, hs4⟩; refine vr 3 ?_; refine vco_k [2] ?_; refine vc_ret ⟨.inr rfl, _, .tmp rfl (.nil), ?_⟩; exact ⟨hl4, _, rfl, ⟨fun h => ⟨h1, hall, by have h9 : ((ment fs).length : Int) ≤ 100 := (by simpa using h); omega⟩, fun h => by have h9 := h.vars; simp; omega⟩⟩
end Go.Eng
