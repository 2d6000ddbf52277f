/- Walks over packages linear and entail, part 1: small, variable, Valid; keep2.Lins; coefficient; slices.Clone of forms; difference's parts. -/
import Derived.Test.YtbbjgagpbffooaaGreatA10
import Derived.Test.YtbbjgagpbffooaaGreatLnd
set_option linter.unusedVariables false
namespace Go.Eng
open Go.Proofs Num Lp
/-- The first terms are good. -/
structure TOk (l : List (Int × Int)) (n : Nat) : Prop where
  term : ∀ (i : Nat) (t : Int × Int), i < n → l[i]? = some t → t.2 ≠ 0 ∧ -1048576 ≤ t.2 ∧ t.2 ≤ 1048576 ∧ -1 ≤ t.1 ∧ t.1 < 3000
  asc : ∀ (i : Nat) (a b : Int × Int), i + 1 < n → l[i]? = some a → l[i + 1]? = some b → a.1 < b.1
theorem tok0 (l : List (Int × Int)) : TOk l 0 := ⟨fun i t h => by omega, fun i a b h => by omega⟩
theorem TOk.next {l : List (Int × Int)} {i : Nat} (h : TOk l i) {t : Int × Int} (ht : l[i]? = some t) (h1 : -1 ≤ t.1 ∧ t.1 < 3000) (h2 : t.2 ≠ 0) (h3 : -1048576 ≤ t.2 ∧ t.2 ≤ 1048576) (h4 : ∀ (j : Nat) (a : Int × Int), j + 1 = i → l[j]? = some a → a.1 < t.1) : TOk l (i + 1) := by
  refine ⟨fun j u hj hu => ?_, fun j a b hj ha hb => ?_⟩
  · by_cases e : j < i
    · exact h.term j u e hu
    · obtain rfl : j = i := by omega
      rw [ht] at hu; cases hu
      exact ⟨h2, h3.1, h3.2, h1.1, h1.2⟩
  · by_cases e : j + 1 < i
    · exact h.asc j a b e ha hb
    · have e : j + 1 = i := by omega
      rw [e, ht] at hb; cases hb
      exact h4 j a e ha
theorem TOk.lin {f : Lin} (h : TOk f.ts f.ts.length) (h1 : -1048576 ≤ f.c ∧ f.c ≤ 1048576) (h2 : f.ts.length ≤ 16) : LinOk f :=
  ⟨h1, h2, fun i t ht => h.term i t (List.getElem?_eq_some_iff.1 ht).1 ht, fun i a b ha hb => h.asc i a b (List.getElem?_eq_some_iff.1 hb).1 ha hb⟩
theorem lsmall_ok {H : Heap} {n : Int} :
  Fn Tryz.prog 71 #[.int .i64 n] H (RetE H (.bool (decide (-1048576 ≤ n ∧ n ≤ 1048576)))) := by
 refine fn_intro (args := [_]) Tryz.func71 rfl rfl Tryz.ntmps71 rfl rfl fun w0 => ?_; refine vc_keep [0] rfl ?_; refine vc_sr ?_; refine vr 1 ?_; refine vco_k [0] ?_
 by_cases h1 : -1048576 ≤ n
 ·
  skip
  refine vc_sr ?_; refine vr 1 ?_; refine vco_cmp true rfl rfl (cle_t h1) ?_; refine vr 5 ?_; refine vco_k [2] ?_; refine vc_ret ⟨.inr rfl, _, .tmp rfl (.nil), ?_⟩; exact ⟨rfl, congrArg Value.bool (by simp [h1])⟩
 ·
  skip
  refine vc_sr ?_; refine vr 1 ?_; refine vco_cmp false rfl rfl (cle_f (by omega)) ?_; refine vr 5 ?_; refine vco_k [2] ?_; refine vc_ret ⟨.inr rfl, _, .tmp rfl (.nil), ?_⟩; exact ⟨rfl, congrArg Value.bool (by simp [h1])⟩
theorem lvar_ok {H : Heap} {n : Int} :
  Fn Tryz.prog 72 #[.int .i64 n] H (RetE H (.bool (decide (-1 ≤ n ∧ n < 3000)))) := by
 refine fn_intro (args := [_]) Tryz.func72 rfl rfl Tryz.ntmps72 rfl rfl fun w0 => ?_; refine vc_keep [0] rfl ?_; refine vc_sr ?_; refine vr 1 ?_; refine vco_k [0] ?_
 by_cases h1 : -1 ≤ n
 ·
  skip
  refine vc_sr ?_; refine vr 1 ?_; refine vco_cmp true rfl rfl (cge_t h1) ?_; refine vr 5 ?_; refine vco_k [2] ?_; refine vc_ret ⟨.inr rfl, _, .tmp rfl (.nil), ?_⟩; exact ⟨rfl, congrArg Value.bool (by simp [h1])⟩
 ·
  skip
  refine vc_sr ?_; refine vr 1 ?_; refine vco_cmp false rfl rfl (cge_f (by omega)) ?_; refine vr 5 ?_; refine vco_k [2] ?_; refine vc_ret ⟨.inr rfl, _, .tmp rfl (.nil), ?_⟩; exact ⟨rfl, congrArg Value.bool (by simp [h1])⟩
theorem lvalid_ok {H : Heap} {f : Lin} {A : Option Addr} {c : Nat} (hf : SlV TermP 2 H (.slice A f.ts.length c) f.ts) :
  Fn Tryz.prog 43 #[.agg #[.int .i64 f.c, .slice A f.ts.length c]] H (fun v' H' => H' = H ∧ ∃ b, v' = .bool b ∧ (b = true ↔ LinOk f)) := by
 obtain ⟨A', c', xs, e, hc, hr, hx⟩ := id hf
 cases e
 refine fn_intro (args := [_]) Tryz.func43 rfl rfl Tryz.ntmps43 rfl rfl fun w0 => ?_; refine vc_keep [0] rfl ?_; refine vc_sr ?_; refine vco_box rfl rfl ?_; refine vr 1 ?_; refine vco_k [1] ?_; refine vc_seq ?_
 by_cases h1 : -1048576 ≤ f.c ∧ f.c ≤ 1048576
 ·
  skip
  by_cases h2 : (16 : Int) < (f.ts.length : Int)
  ·
   skip
   refine vc_sr ?_; refine vr 2 ?_; refine vco_call rfl rfl (lsmall_ok.bt (decide_eq_true h1)) ?_; rintro _ H2 ⟨e2, rfl⟩; rw [e2]; refine vr 5 ?_; refine vco_cmp true rfl rfl (cgt_t h2) ?_; refine vr 1 ?_; refine vco_k [1, 14] ?_; refine vc_cond_t rfl ?_; refine vc_sr ?_; refine vr 1 ?_; refine vco_k [2] ?_; refine vc_ret ⟨.inr rfl, _, .tmp rfl (.nil), ?_⟩; exact ⟨rfl, false, rfl, ⟨(fun h => by cases h), fun h => absurd h.len (by omega)⟩⟩
  ·
   skip
   refine vc_sr ?_; refine vr 2 ?_; refine vco_call rfl rfl (lsmall_ok.bt (decide_eq_true h1)) ?_; rintro _ H2 ⟨e2, rfl⟩; rw [e2]; refine vr 5 ?_; refine vco_cmp false rfl rfl (cgt_f (by omega)) ?_; refine vr 1 ?_; refine vco_k [1, 14] ?_; refine vc_cond_f rfl ?_; refine vc_skip ?_; refine vc_keep [1] rfl ?_; refine vc_seq ?_; refine vc_sr ?_; refine vr 4 ?_; refine vco_k [1, 16, 17, 18] ?_; refine vc_block ?_; refine vc_loop1 (fun (i : Nat) => f.ts.length - i) (fun (i : Nat) => put (put (put (put (emp) 1 (.box [.int .i64 f.c, .slice A f.ts.length c])) 16 (.val (.slice A f.ts.length c))) 17 (.val (.int .i64 (f.ts.length : Int)))) 18 (.val (.int .i64 (i : Int)))) (fun (i : Nat) H' => H' = H ∧ i ≤ f.ts.length ∧ TOk f.ts i) 0 (⟨rfl, Nat.zero_le _, tok0 _⟩) sub_auto ?_; rintro i H1 ⟨e1, hi, hk⟩; rw [e1]; refine vc_sr ?_; refine vr 1 ?_; refine vco_k [1, 16, 17, 18, 19] ?_; refine vc_seq ?_; refine vc_cond rfl (fun hb => ?_) (fun hb => ?_)
   ·
    have him : i < f.ts.length := by simpa using hb
    obtain ⟨t, ht⟩ : ∃ t, f.ts[i]? = some t := ⟨_, List.getElem?_eq_getElem him⟩; refine vc_skip ?_; refine vc_keep [1, 16, 17, 18] rfl ?_; refine vc_seq ?_; refine vc_block ?_; refine vc_sr ?_; refine vr 1 ?_; refine vco_at_st tbOk rfl rfl rfl rfl (hr) rfl (by decide) (term_get hx ht) (by omega) (by omega) fun _ => ?_; refine vco_alloc el51 rfl ?_; refine vr 1 ?_; obtain ⟨ti, hti, htz⟩ := sz51; refine vco_bstore (.inl ⟨rfl, rfl⟩) rfl rfl rfl hti htz rfl rfl rfl ?_; refine vco_k [1, 3, 4, 16, 17, 18] ?_; refine vc_sd .drawB [0, 1, 2, 3, 4, 5, 6, 7, 8, 9, 10, 11, 12, 13, 14, 15, 16, 17, 18, 19, 20, 21, 22, 23, 24, 25, 26, 27, 28, 29, 30] follows (okM [0, 1, 3, 7, 15, 31, 63, 127, 255, 511, 1023, 2047, 4095, 8191, 16383, 32767, 65535, 131071, 262143, 524287, 1048575, 524287, 2621439, 8388607, 16777215, 33554431, 524287, 67633151, 268435455, 536870911, 1073741823] (by kernel_rfl)) ?_; refine vr 2 ?_
    by_cases v1 : -1 ≤ t.1 ∧ t.1 < 3000
    ·
     skip
     refine vco_callM rfl rfl (lvar_ok.bt (decide_eq_true v1)) (fun _ _ h => by first | exact h.le | exact h.1) ?_; rintro _ H2 ⟨e2, rfl⟩; rw [e2]; refine vr 4 ?_
     by_cases v2 : t.2 = 0
     ·
      skip
      refine vco_cmp true rfl rfl (ceq_t v2) ?_; refine vr 23 ?_; refine vco_k [1, 16, 17, 18, 53] ?_; refine vc_cond_t rfl ?_; refine vc_sr ?_; refine vr 1 ?_; refine vco_k [2] ?_; refine vc_ret ⟨.inr rfl, _, .tmp rfl (.nil), ?_⟩; exact ⟨rfl, false, rfl, ⟨(fun h => by cases h), fun h => absurd v2 (h.term i t ht).1⟩⟩
     ·
      skip
      refine vco_cmp false rfl rfl (ceq_f v2) ?_; refine vr 4 ?_
      by_cases v3 : -1048576 ≤ t.2 ∧ t.2 ≤ 1048576
      ·
       skip
       refine vco_callM rfl rfl (lsmall_ok.bt (decide_eq_true v3)) (fun _ _ h => by first | exact h.le | exact h.1) ?_; rintro _ H2 ⟨e2, rfl⟩; rw [e2]; refine vr 4 ?_
       by_cases v4 : i = 0
       ·
        skip
        refine vco_cmp false rfl rfl (cgt_f (by omega)) ?_; refine vr 13 ?_; refine vco_k [1, 16, 17, 18, 53] ?_; refine vc_cond_f rfl ?_; refine vc_skip ?_; refine vc_keep [1, 16, 17, 18] rfl ?_; refine vc_region rfl ?_; refine vco_add rfl rfl ⟨by omega, by omega⟩ ?_; refine vr 1 ?_; refine vco_end ?_; exact ⟨i + 1, by omega, sub_auto, rfl, by omega, hk.next ht v1 v2 v3 fun j a hj ha => by omega⟩
       ·
        obtain ⟨a, ha⟩ : ∃ a, f.ts[i - 1]? = some a := ⟨_, List.getElem?_eq_getElem (by omega)⟩; have hxa := term_get hx ha; refine vco_cmp true rfl rfl (cgt_t (by omega)) ?_; refine vr 4 ?_; refine vco_sub rfl rfl ⟨by omega, by omega⟩ ?_; refine vco_atf tbOk rfl rfl rfl rfl rfl rfl rfl (hr) (by rw [toNat_pred (by omega)]; exact hxa 0 _ rfl) (by omega) (by omega) fun _ _ => ?_; refine vr 2 ?_
        by_cases v5 : a.1 < t.1
        ·
         skip
         refine vco_cmp false rfl rfl (cge_f v5) ?_; refine vr 2 ?_; refine vco_k [1, 16, 17, 18, 53] ?_; refine vc_cond_f rfl ?_; refine vc_skip ?_; refine vc_keep [1, 16, 17, 18] rfl ?_; refine vc_region rfl ?_; refine vco_add rfl rfl ⟨by omega, by omega⟩ ?_; refine vr 1 ?_; refine vco_end ?_; exact ⟨i + 1, by omega, sub_auto, rfl, by omega, hk.next ht v1 v2 v3 fun j b hj hb9 => by (obtain rfl : j = i - 1 := by omega); rw [ha] at hb9; cases hb9; exact v5⟩
        ·
         skip
         refine vco_cmp true rfl rfl (cge_t (by omega)) ?_; refine vr 2 ?_; refine vco_k [1, 16, 17, 18, 53] ?_; refine vc_cond_t rfl ?_; refine vc_sr ?_; refine vr 1 ?_; refine vco_k [2] ?_; refine vc_ret ⟨.inr rfl, _, .tmp rfl (.nil), ?_⟩; exact ⟨rfl, false, rfl, ⟨(fun h => by cases h), fun h => absurd (h.asc (i - 1) a t ha (by rw [show i - 1 + 1 = i by omega]; exact ht)) v5⟩⟩
      ·
       skip
       refine vco_callM rfl rfl (lsmall_ok.bf (decide_eq_false v3)) (fun _ _ h => by first | exact h.le | exact h.1) ?_; rintro _ H2 ⟨e2, rfl⟩; rw [e2]; refine vr 18 ?_; refine vco_k [1, 16, 17, 18, 53] ?_; refine vc_cond_t rfl ?_; refine vc_sr ?_; refine vr 1 ?_; refine vco_k [2] ?_; refine vc_ret ⟨.inr rfl, _, .tmp rfl (.nil), ?_⟩; exact ⟨rfl, false, rfl, ⟨(fun h => by cases h), fun h => absurd ⟨(h.term i t ht).2.1, (h.term i t ht).2.2.1⟩ v3⟩⟩
    ·
     skip
     refine vco_callM rfl rfl (lvar_ok.bf (decide_eq_false v1)) (fun _ _ h => by first | exact h.le | exact h.1) ?_; rintro _ H2 ⟨e2, rfl⟩; rw [e2]; refine vr 28 ?_; refine vco_k [1, 16, 17, 18, 53] ?_; refine vc_cond_t rfl ?_; refine vc_sr ?_; refine vr 1 ?_; refine vco_k [2] ?_; refine vc_ret ⟨.inr rfl, _, .tmp rfl (.nil), ?_⟩; exact ⟨rfl, false, rfl, ⟨(fun h => by cases h), fun h => absurd ⟨(h.term i t ht).2.2.2.1, (h.term i t ht).2.2.2.2⟩ v1⟩⟩
   ·
    have hb : f.ts.length ≤ i := by simpa using hb
    refine vc_exit ?_; refine vc_keep [] rfl ?_; refine vc_sr ?_; refine vr 1 ?_; refine vco_k [2] ?_; refine vc_ret ⟨.inr rfl, _, .tmp rfl (.nil), ?_⟩
    obtain rfl : i = f.ts.length := by omega
    exact ⟨rfl, true, rfl, ⟨fun _ => hk.lin h1 (by omega), fun _ => rfl⟩⟩
 ·
  skip
  refine vc_sr ?_; refine vr 2 ?_; refine vco_call rfl rfl (lsmall_ok.bf (decide_eq_false h1)) ?_; rintro _ H2 ⟨e2, rfl⟩; rw [e2]; refine vr 7 ?_; refine vco_k [1, 14] ?_; refine vc_cond_t rfl ?_; refine vc_sr ?_; refine vr 1 ?_; refine vco_k [2] ?_; refine vc_ret ⟨.inr rfl, _, .tmp rfl (.nil), ?_⟩; exact ⟨rfl, false, rfl, ⟨(fun h => by cases h), fun h => absurd h.const h1⟩⟩
theorem kLins_ok {H : Heap} {v : Value} {fs : List Lin} {m n : Nat} (hv : FmV H v fs) (hm : m ≤ 1000) :
  Fn Tryz.prog 41 #[v, .int .i64 (m : Int), .int .i64 (n : Int)] H (fun v' H' => H' = H ∧ ∃ b, v' = .bool b ∧ (b = true ↔ fs.length ≤ m ∧ ∀ f, f ∈ fs → f.ts.length ≤ n)) := by
 obtain ⟨A, c, xs, rfl, hc, hr, hx⟩ := id hv; refine fn_intro (args := [_, _, _]) Tryz.func41 rfl rfl Tryz.ntmps41 rfl rfl fun w0 => ?_; refine vc_keep [0, 1, 2] rfl ?_; refine vc_sr ?_; refine vr 1 ?_; refine vco_k [0, 1, 2] ?_; refine vc_seq ?_; refine vc_sr ?_; refine vr 4 ?_; refine vco_k [0, 2, 11] ?_; refine vc_cond rfl (fun hb => ?_) (fun hb => ?_)
 ·
  have h1 : ¬ fs.length ≤ m := by simpa using hb
  refine vc_sr ?_; refine vr 1 ?_; refine vco_k [6] ?_; refine vc_ret ⟨.inr rfl, _, .tmp rfl (.nil), ?_⟩; exact ⟨rfl, false, rfl, ⟨(fun h => by cases h), fun h => absurd h.1 h1⟩⟩
 ·
  have h1 : fs.length ≤ m := by simpa using hb
  refine vc_skip ?_; refine vc_keep [0, 2] rfl ?_; refine vc_seq ?_; refine vc_sr ?_; refine vr 3 ?_; refine vco_k [0, 2, 13, 14] ?_; refine vc_block ?_; refine vc_loop1 (fun (i : Nat) => fs.length - i) (fun (i : Nat) => put (put (put (put (emp) 0 (.val (.slice A fs.length c))) 2 (.val (.int .i64 (n : Int)))) 13 (.val (.int .i64 (fs.length : Int)))) 14 (.val (.int .i64 (i : Int)))) (fun (i : Nat) H' => H' = H ∧ i ≤ fs.length ∧ ∀ (k : Nat) (f : Lin), k < i → fs[k]? = some f → f.ts.length ≤ n) 0 (⟨rfl, Nat.zero_le _, fun k f h => by omega⟩) sub_auto ?_; rintro i H1 ⟨e1, hi, hk⟩; rw [e1]; refine vc_sr ?_; refine vr 1 ?_; refine vco_k [0, 2, 13, 14, 15] ?_; refine vc_seq ?_; refine vc_cond rfl (fun hb => ?_) (fun hb => ?_)
  ·
   have him : i < fs.length := by simpa using hb
   obtain ⟨f, hf⟩ : ∃ f, fs[i]? = some f := ⟨_, List.getElem?_eq_getElem him⟩; obtain ⟨B, cb, hfs, hxf⟩ := form_get hx hf; refine vc_skip ?_; refine vc_keep [0, 2, 13, 14] rfl ?_; refine vc_seq ?_; refine vc_block ?_; refine vc_sr ?_; refine vr 2 ?_; refine vco_k [0, 2, 7, 13, 14] ?_; refine vc_sr ?_; refine vr 2 ?_; refine vco_atf tbOk rfl rfl rfl rfl rfl rfl rfl (hr) (hxf 1 _ rfl) (by omega) (by omega) fun _ _ => ?_; refine vr 3 ?_; refine vco_k [0, 2, 13, 14, 24] ?_; refine vc_cond rfl (fun hb => ?_) (fun hb => ?_)
   ·
    have h2 : ¬ f.ts.length ≤ n := by simpa using hb
    refine vc_sr ?_; refine vr 1 ?_; refine vco_k [6] ?_; refine vc_ret ⟨.inr rfl, _, .tmp rfl (.nil), ?_⟩; exact ⟨rfl, false, rfl, ⟨(fun h => by cases h), fun h => absurd (h.2 f (List.mem_of_getElem? hf)) h2⟩⟩
   ·
    have h2 : f.ts.length ≤ n := by simpa using hb
    refine vc_skip ?_; refine vc_keep [0, 2, 13, 14] rfl ?_; refine vc_region rfl ?_; refine vco_add rfl rfl ⟨by omega, by omega⟩ ?_; refine vr 1 ?_; refine vco_end ?_; exact ⟨i + 1, by omega, sub_auto, rfl, by omega, fun k f9 h9 hf9 => by by_cases e : k < i; exact hk k f9 e hf9; (obtain rfl : k = i := by omega); rw [hf] at hf9; cases hf9; exact h2⟩
  ·
   have hb : fs.length ≤ i := by simpa using hb
   refine vc_exit ?_; refine vc_keep [] rfl ?_; refine vc_sr ?_; refine vr 1 ?_; refine vco_k [6] ?_; refine vc_ret ⟨.inr rfl, _, .tmp rfl (.nil), ?_⟩; exact ⟨rfl, true, rfl, ⟨fun _ => ⟨h1, fun f hf => by obtain ⟨k, h9⟩ := List.getElem?_of_mem hf; exact hk k f (by have := (List.getElem?_eq_some_iff.1 h9).1; omega) h9⟩, fun _ => rfl⟩⟩
theorem coef_ok {H : Heap} {f : Lin} {A : Option Addr} {c : Nat} {v : Int} (hf : SlV TermP 2 H (.slice A f.ts.length c) f.ts) (hl : f.ts.length ≤ 1000000) :
  Fn Tryz.prog 76 #[.agg #[.int .i64 f.c, .slice A f.ts.length c], .int .i64 v] H (RetE H (.int .i64 (f.coef v))) := by
 obtain ⟨A', c', xs, e, hc, hr, hx⟩ := id hf
 cases e
 refine fn_intro (args := [_, _]) Tryz.func76 rfl rfl Tryz.ntmps76 rfl rfl fun w0 => ?_; refine vc_keep [0, 1] rfl ?_; refine vc_sr ?_; refine vco_box rfl rfl ?_; refine vr 1 ?_; refine vco_k [1, 2] ?_; refine vc_seq ?_; refine vc_sr ?_; refine vr 4 ?_; refine vco_k [1, 8, 9, 10] ?_; refine vc_block ?_; refine vc_loop1 (fun (i : Nat) => f.ts.length - i) (fun (i : Nat) => put (put (put (put (emp) 1 (.val (.int .i64 v))) 8 (.val (.slice A f.ts.length c))) 9 (.val (.int .i64 (f.ts.length : Int)))) 10 (.val (.int .i64 (i : Int)))) (fun (i : Nat) H' => H' = H ∧ i ≤ f.ts.length ∧ f.coef v = coefT (f.ts.drop i) v) 0 (⟨rfl, Nat.zero_le _, rfl⟩) sub_auto ?_; rintro i H1 ⟨e1, hi, hk⟩; rw [e1]; refine vc_sr ?_; refine vr 1 ?_; refine vco_k [1, 8, 9, 10, 11] ?_; refine vc_seq ?_; refine vc_cond rfl (fun hb => ?_) (fun hb => ?_)
 ·
  have him : i < f.ts.length := by simpa using hb
  obtain ⟨t, ht⟩ : ∃ t, f.ts[i]? = some t := ⟨_, List.getElem?_eq_getElem him⟩
  have hd : f.ts.drop i = t :: f.ts.drop (i + 1) := by rw [List.drop_eq_getElem_cons him, (List.getElem?_eq_some_iff.1 ht).2]
  refine vc_skip ?_; refine vc_keep [1, 8, 9, 10] rfl ?_; refine vc_seq ?_; refine vc_block ?_; refine vc_sr ?_; refine vco_at_st tbOk rfl rfl rfl rfl (hr) rfl (by decide) (term_get hx ht) (by omega) (by omega) fun _ => ?_; refine vco_alloc el51 rfl ?_; obtain ⟨ti, hti, htz⟩ := sz51; refine vco_bstore (.inl ⟨rfl, rfl⟩) rfl rfl rfl hti htz rfl rfl rfl ?_; refine vco_k [1, 6, 8, 9, 10] ?_; refine vc_sr ?_; refine vr 4 ?_; refine vco_k [1, 6, 8, 9, 10, 17] ?_; refine vc_cond rfl (fun hb => ?_) (fun hb => ?_)
  ·
   have h2 : t.1 = v := by simpa using hb
   refine vc_sr ?_; refine vr 3 ?_; refine vco_k [4] ?_; refine vc_ret ⟨.inr rfl, _, .tmp rfl (.nil), ?_⟩; exact ⟨rfl, by rw [hk, hd, coefT, if_pos h2]; rfl⟩
  ·
   have h2 : ¬ t.1 = v := by simpa using hb
   refine vc_skip ?_; refine vc_keep [1, 8, 9, 10] rfl ?_; refine vc_region rfl ?_; refine vco_add rfl rfl ⟨by omega, by omega⟩ ?_; refine vr 1 ?_; refine vco_end ?_; exact ⟨i + 1, by omega, sub_auto, rfl, by omega, by rw [hk, hd, coefT, if_neg h2]⟩
 ·
  have hb : f.ts.length ≤ i := by simpa using hb
  refine vc_exit ?_; refine vc_keep [] rfl ?_; refine vc_sr ?_; refine vr 1 ?_; refine vco_k [4] ?_; refine vc_ret ⟨.inr rfl, _, .tmp rfl (.nil), ?_⟩; exact ⟨rfl, by rw [hk, List.drop_eq_nil_of_le hb]; rfl⟩
end Go.Eng
