/- Walks over package entail, part 2: slices.Clone of forms; variables, Valid; the closures; difference, remainder. -/
import Derived.Test.YtbbjgagpbffooaaGreatA10
import Derived.Test.YtbbjgagpbffooaaGreatEn1
import Derived.Test.YtbbjgagpbffooaaGreatLnd2
set_option linter.unusedVariables false
namespace Go.Eng
open Go.Proofs Num Lp
theorem fclone_ok {H : Heap} {v : Value} {fs : List Lin} (h : FmV H v fs) (hl : fs.length ≤ 1000000) :
  Fn Tryz.prog 59 #[v] H (FormsP fs H) := by
 obtain ⟨A, c, xs, rfl, hc, hr, hx⟩ := id h; refine fn_intro (args := [_]) Tryz.func59 rfl rfl Tryz.ntmps59 rfl rfl fun w0 => ?_; refine vc_keep [0] rfl ?_; refine vc_sr ?_; refine vr 1 ?_; refine vco_k [0] ?_; refine vc_seq ?_; refine vc_sr ?_; refine vr 1 ?_; refine vco_eqs Tryz.underlying22 rfl rfl ?_; refine vco_k [0, 4] ?_; refine vc_cond rfl (fun hb => ?_) (fun hb => ?_)
 ·
  have hA : A = none := by simpa using hb
  have hl0 : fs = [] := by
   cases hl1 : fs with
   | nil => rfl
   | cons a k =>
    rw [hl1] at hx; obtain ⟨B, d, _, hxf⟩ := form_get hx (i := 0) (f := a) rfl; obtain ⟨ad, h9, _⟩ := hr _ _ (hxf 0 _ rfl); rw [hA] at h9; cases h9
  refine vc_sr ?_; refine vr 1 ?_; refine vco_k [2] ?_; refine vc_ret ⟨.inr rfl, _, .tmp rfl (.nil), ?_⟩; exact ⟨[], by rw [hl0]; exact gro_nil H⟩
 ·
  skip
  refine vc_skip ?_; refine vc_keep [0] rfl ?_; refine vc_sr ?_; refine vco_build0 Tryz.underlying22 el25 ?_; intro g hg; have hG := gro_new0 (P := FormP) (e := 25) (sz := 2) hg; refine vr 1 ?_; refine vco_app formUp oneForm (by decide) Tryz.underlying22 el25 rfl rfl hG (h.le formUp hG.base) (by rw [List.length_nil]; omega) (by rw [List.length_nil]; omega) ?_; intro v2 H2 y2 hG2 _; rw [List.nil_append] at hG2; refine vr 1 ?_; refine vco_k [2] ?_; refine vc_ret ⟨.inr rfl, _, .tmp rfl (.nil), ?_⟩; exact ⟨_, hG2⟩
theorem vars_ok {H : Heap} {v : Value} {fs : List Lin} (hv : FmV H v fs) (h1 : fs.length ≤ 1000) (h2 : ∀ f, f ∈ fs → f.ts.length ≤ 1000) :
  Fn Tryz.prog 44 #[v] H (VarsP (ment fs) H) := by
 obtain ⟨A, c, xs, rfl, hc, hr, hx⟩ := id hv
 have hmul : fs.length * 1000 ≤ 1000 * 1000 := Nat.mul_le_mul_right _ h1; refine fn_intro (args := [_]) Tryz.func44 rfl rfl Tryz.ntmps44 rfl rfl fun w0 => ?_; refine vc_keep [0] rfl ?_; refine vc_sr ?_; refine vr 1 ?_; refine vco_k [0] ?_; refine vc_sr ?_; refine vr 1 ?_; refine vco_k [0, 3] ?_; refine vc_seq ?_; refine vc_sr ?_; refine vr 3 ?_; refine vco_k [3, 8, 9, 10] ?_; refine vc_block ?_; refine vc_loop3 (fun (i : Nat) (w : Value) (ys : List Value) => fs.length - i) (fun (i : Nat) (w : Value) (ys : List Value) => put (put (put (put (emp) 3 (.val (w))) 8 (.val (.slice A fs.length c))) 9 (.val (.int .i64 (fs.length : Int)))) 10 (.val (.int .i64 (i : Int)))) (fun (i : Nat) (w : Value) (ys : List Value) H' => Gro IntP 3 1 H H' w (allVars (fs.take i)) ys ∧ i ≤ fs.length) 0 (.slice none 0 0) [] (⟨gro_nil H, Nat.zero_le _⟩) sub_auto ?_; rintro i w ys H1 ⟨hG, hi⟩; obtain ⟨W, cw, rfl⟩ := hG.form; have hlv := lins_len h2 i; refine vc_sr ?_; refine vr 1 ?_; refine vco_k [3, 8, 9, 10, 11] ?_; refine vc_seq ?_; refine vc_cond rfl (fun hb => ?_) (fun hb => ?_)
 ·
  have him : i < fs.length := by simpa using hb
  obtain ⟨f, hf⟩ : ∃ f, fs[i]? = some f := ⟨_, List.getElem?_eq_getElem him⟩; have hlf := h2 f (List.mem_of_getElem? hf); obtain ⟨B, cb, hfs, hxf⟩ := form_get hx hf; obtain ⟨B', cb', xb, e, hcb, hrb, hxb⟩ := id hfs
  cases e
  refine vc_skip ?_; refine vc_keep [3, 8, 9, 10] rfl ?_; refine vc_seq ?_; refine vc_block ?_; refine vc_sr ?_; refine vco_at_st tbOk rfl rfl rfl rfl (hr.le hG.le) rfl (by decide) (hxf) (by omega) (by omega) fun _ => ?_; refine vco_alloc el25 rfl ?_; obtain ⟨ti, hti, htz⟩ := sz25; refine vco_bstore (.inl ⟨rfl, rfl⟩) rfl rfl rfl hti htz rfl rfl rfl ?_; refine vco_k [3, 5, 8, 9, 10] ?_; refine vc_sr ?_; refine vr 4 ?_; refine vco_k [3, 8, 9, 10, 15, 16, 17] ?_; refine vc_block ?_; refine vc_loop3 (fun (k : Nat) (w : Value) (ys : List Value) => f.ts.length - k) (fun (k : Nat) (w : Value) (ys : List Value) => put (put (put (put (put (put (put (emp) 3 (.val (w))) 8 (.val (.slice A fs.length c))) 9 (.val (.int .i64 (fs.length : Int)))) 10 (.val (.int .i64 (i : Int)))) 15 (.val (.slice B f.ts.length cb))) 16 (.val (.int .i64 (f.ts.length : Int)))) 17 (.val (.int .i64 (k : Int)))) (fun (k : Nat) (w : Value) (ys : List Value) H' => Gro IntP 3 1 H H' w (allVars (fs.take i) ++ (f.ts.take k).map (·.1)) ys ∧ k ≤ f.ts.length) 0 (.slice W (allVars (fs.take i)).length cw) ys (⟨by rw [show (f.ts.take 0).map (·.1) = [] from rfl, List.append_nil]; exact hG, Nat.zero_le _⟩) sub_auto ?_; rintro k w ys H2 ⟨hG2, hk⟩; obtain ⟨W2, cw2, rfl⟩ := hG2.form
  have hlk : ((f.ts.take k).map (·.1)).length = k := by rw [List.length_map, List.length_take]; omega
  have hla : (allVars (fs.take i) ++ (f.ts.take k).map (·.1)).length = (allVars (fs.take i)).length + k := by rw [List.length_append, hlk]
  refine vc_sr ?_; refine vr 1 ?_; refine vco_k [3, 8, 9, 10, 15, 16, 17, 18] ?_; refine vc_seq ?_; refine vc_cond rfl (fun hb => ?_) (fun hb => ?_)
  ·
   have hkm : k < f.ts.length := by simpa using hb
   obtain ⟨t, ht⟩ : ∃ t, f.ts[k]? = some t := ⟨_, List.getElem?_eq_getElem hkm⟩; refine vc_skip ?_; refine vc_keep [3, 8, 9, 10, 15, 16, 17] rfl ?_; refine vc_seq ?_; refine vc_block ?_; refine vc_sr ?_; refine vco_at_st tbOk rfl rfl rfl rfl (hrb.le hG2.le) rfl (by decide) (term_get hxb ht) (by omega) (by omega) fun _ => ?_; refine vco_alloc el51 rfl ?_; obtain ⟨ti, hti, htz⟩ := sz51; refine vco_bstore (.inl ⟨rfl, rfl⟩) rfl rfl rfl hti htz rfl rfl rfl ?_; refine vco_k [3, 7, 8, 9, 10, 15, 16, 17] ?_; refine vc_region rfl ?_; refine vr 3 ?_; refine vco_build Tryz.underlying57 el3 rfl rfl rfl rfl rfl rfl rfl ?_; intro gb hgb; refine vco_push intUp oneInt Tryz.underlying57 el3 rfl rfl hG2 hgb (show IntP _ [_] t.1 from rfl) rfl (by rw [hla]; omega) (by rw [hla]; omega) ?_; intro v4 H4 y4 hG3 _; refine vr 1 ?_; refine vco_end ?_; refine vc_keep [3, 8, 9, 10, 15, 16, 17] rfl ?_; refine vc_region rfl ?_; refine vco_add rfl rfl ⟨by omega, by omega⟩ ?_; refine vr 1 ?_; refine vco_end ?_; exact ⟨k + 1, _, _, by omega, sub_auto, by rw [tms ht, ← List.append_assoc]; exact hG3, by omega⟩
  ·
   have hb : f.ts.length ≤ k := by simpa using hb
   obtain rfl : k = f.ts.length := by omega
   have hG2 := hG2.cast (show allVars (fs.take i) ++ (f.ts.take f.ts.length).map (·.1) = allVars (fs.take i) ++ f.vars by rw [List.take_length]; rfl); refine vc_exit ?_; refine vc_keep [3, 8, 9, 10] rfl ?_; refine vc_region rfl ?_; refine vco_add rfl rfl ⟨by omega, by omega⟩ ?_; refine vr 1 ?_; refine vco_end ?_; exact ⟨i + 1, _, _, by omega, sub_auto, by rw [take_allVars hf]; exact hG2, by omega⟩
 ·
  have hb : fs.length ≤ i := by simpa using hb
  obtain rfl : i = fs.length := by omega
  have hG := hG.cast (show allVars (fs.take fs.length) = allVars fs by rw [List.take_length]); rw [List.take_length] at hlv
  have hO : Own H1 (.slice W (allVars (fs.take fs.length)).length cw) 3 1 (allVars fs).length (iv (allVars fs)) := by rw [← ints_eq hG.els]; exact hG.own
  refine vc_exit ?_; refine vc_keep [3] rfl ?_; refine vc_sr ?_; refine vr 1 ?_; refine vco_call rfl rfl (sort_ok hO (by omega)) ?_; rintro _ H5 ⟨rfl, hI5⟩; refine vco_k [3] ?_; refine vc_sr ?_; refine vr 1 ?_; refine vco_call rfl rfl (compact_ok hI5.cut (by rw [srt_len]; omega)) ?_; rintro v6 H6 ⟨hl6, hs6⟩; rw [cut_ment] at hs6; rw [hI5.rem] at hl6; obtain ⟨A6, c6, xs6, rfl, h6⟩ := id hs6; refine vr 1 ?_; refine vco_k [2] ?_; refine vc_ret ⟨.inr rfl, _, .tmp rfl (.nil), ?_⟩; exact ⟨hG.base.trans hl6, A6, c6, rfl, hs6⟩
theorem evalid_ok {H : Heap} {v : Value} {fs : List Lin} (hv : FmV H v fs) :
  Fn Tryz.prog 18 #[v] H (fun v' H' => Heap.le H H' ∧ ∃ b, v' = .bool b ∧ (b = true ↔ FactsOk fs)) := by
 obtain ⟨A, c, xs, rfl, hc, hr, hx⟩ := id hv; refine fn_intro (args := [_]) Tryz.func18 rfl rfl Tryz.ntmps18 rfl rfl fun w0 => ?_; refine vc_keep [0] rfl ?_; refine vc_sr ?_; refine vr 1 ?_; refine vco_k [0] ?_; refine vc_seq ?_; refine vc_sr ?_; refine vr 3 ?_; refine vco_k [0, 7] ?_; refine vc_cond rfl (fun hb => ?_) (fun hb => ?_)
 ·
  have h1 : ¬ fs.length ≤ 200 := by have h9 : (200 : Int) < fs.length := (by simpa using hb); omega
  refine vc_sr ?_; refine vr 1 ?_; refine vco_k [2] ?_; refine vc_ret ⟨.inr rfl, _, .tmp rfl (.nil), ?_⟩; exact ⟨.refl _, false, rfl, ⟨(fun h => by cases h), fun h => absurd h.len h1⟩⟩
 ·
  have h1 : fs.length ≤ 200 := by have h9 : (fs.length : Int) ≤ 200 := (by simpa using hb); omega
  refine vc_skip ?_; refine vc_keep [0] rfl ?_; refine vc_seq ?_; refine vc_sr ?_; refine vr 3 ?_; refine vco_k [0, 8, 9, 10] ?_; refine vc_block ?_; refine vc_loop1 (fun (i : Nat) => fs.length - i) (fun (i : Nat) => put (put (put (put (emp) 0 (.val (.slice A fs.length c))) 8 (.val (.slice A fs.length c))) 9 (.val (.int .i64 (fs.length : Int)))) 10 (.val (.int .i64 (i : Int)))) (fun (i : Nat) H' => H' = H ∧ i ≤ fs.length ∧ ∀ (k : Nat) (f : Lin), k < i → fs[k]? = some f → LinOk f) 0 (⟨rfl, Nat.zero_le _, fun k f h => by omega⟩) sub_auto ?_; rintro i H1 ⟨e1, hi, hk⟩; rw [e1]; refine vc_sr ?_; refine vr 1 ?_; refine vco_k [0, 8, 9, 10, 11] ?_; refine vc_seq ?_; refine vc_cond rfl (fun hb => ?_) (fun hb => ?_)
  ·
   have him : i < fs.length := by simpa using hb
   obtain ⟨f, hf⟩ : ∃ f, fs[i]? = some f := ⟨_, List.getElem?_eq_getElem him⟩; obtain ⟨B, cb, hfs, hxf⟩ := form_get hx hf; refine vc_skip ?_; refine vc_keep [0, 8, 9, 10] rfl ?_; refine vc_seq ?_; refine vc_block ?_; refine vc_sr ?_; refine vco_at_st tbOk rfl rfl rfl rfl (hr) rfl (by decide) (hxf) (by omega) (by omega) fun _ => ?_; refine vco_alloc el25 rfl ?_; obtain ⟨ti, hti, htz⟩ := sz25; refine vco_bstore (.inl ⟨rfl, rfl⟩) rfl rfl rfl hti htz rfl rfl rfl ?_; refine vco_k [0, 4, 8, 9, 10] ?_; refine vc_sr ?_; refine vr 1 ?_; refine vco_call rfl rfl (lvalid_ok hfs) ?_; rintro _ H3 ⟨e3, b3, rfl, hb3⟩; rw [e3]; refine vr 1 ?_; refine vco_k [0, 8, 9, 10, 16] ?_; refine vc_cond rfl (fun hb => ?_) (fun hb => ?_)
   ·
    have hbt : ¬ b3 = true := by simpa using hb
    refine vc_sr ?_; refine vr 1 ?_; refine vco_k [2] ?_; refine vc_ret ⟨.inr rfl, _, .tmp rfl (.nil), ?_⟩; exact ⟨.refl _, false, rfl, ⟨(fun h => by cases h), fun h => absurd (hb3.2 (h.ok i f hf)) hbt⟩⟩
   ·
    have hbt : b3 = true := by simpa using hb
    refine vc_skip ?_; refine vc_keep [0, 8, 9, 10] rfl ?_; refine vc_region rfl ?_; refine vco_add rfl rfl ⟨by omega, by omega⟩ ?_; refine vr 1 ?_; refine vco_end ?_; exact ⟨i + 1, by omega, sub_auto, rfl, by omega, fun k f9 h9 hf9 => by by_cases e : k < i; exact hk k f9 e hf9; (obtain rfl : k = i := by omega); rw [hf] at hf9; cases hf9; exact hb3.1 hbt⟩
  ·
   have hb : fs.length ≤ i := by simpa using hb
   have hall : ∀ (k : Nat) (f : Lin), fs[k]? = some f → LinOk f := fun k f h => hk k f (by have := (List.getElem?_eq_some_iff.1 h).1; omega) h; refine vc_exit ?_; refine vc_keep [0] rfl ?_; refine vc_sr ?_; refine vr 1 ?_; refine vco_call rfl rfl (vars_ok hv (by omega) (fun f hf => by obtain ⟨k, h9⟩ := List.getElem?_of_mem hf; have := (hall k f h9).len; omega)) ?_; rintro _ H4 ⟨hl4, A4, c4, rfl, hs4⟩; refine vr 3 ?_; refine vco_k [2] ?_; refine vc_ret ⟨.inr rfl, _, .tmp rfl (.nil), ?_⟩; exact ⟨hl4, _, rfl, ⟨fun h => ⟨h1, hall, by have h9 : ((ment fs).length : Int) ≤ 100 := (by simpa using h); omega⟩, fun h => by have h9 := h.vars; simp; omega⟩⟩
theorem part1_ok {H : Heap} {f : Lin} {A : Option Addr} {c g : Nat} {v : Int} (hc : cell H ⟨g, 0, none⟩ = some (.int .i64 v)) (hf : SlV TermP 2 H (.slice A f.ts.length c) f.ts) (hl : f.ts.length ≤ 1000000) :
  Fn Tryz.prog 75 #[.agg #[.int .i64 f.c, .slice A f.ts.length c], .pointer (some ⟨g, 0, none⟩)] H (RetE H (.int .i64 (f.coef v))) := by
 refine fn_intro (args := [_, _]) Tryz.func75 rfl rfl Tryz.ntmps75 rfl rfl fun w0 => ?_; refine vc_keep [0, 1] rfl ?_; refine vc_sr ?_; refine vco_box rfl rfl ?_; refine vr 1 ?_; refine vco_k [1, 2] ?_; refine vc_sr ?_; refine vr 1 ?_; refine vco_hload tbOk rfl rfl rfl (hc) ?_; refine vco_call rfl rfl (coef_ok hf hl) ?_; rintro _ _ ⟨e2, rfl⟩; rw [e2]; refine vr 1 ?_; refine vco_k [3] ?_; refine vc_ret ⟨.inr rfl, _, .tmp rfl (.nil), ?_⟩; exact ⟨rfl, rfl⟩
theorem part2_ok {H : Heap} {f : Lin} {A : Option Addr} {c : Nat} :
  Fn Tryz.prog 78 #[.agg #[.int .i64 f.c, .slice A f.ts.length c]] H (RetE H (.int .i64 f.c)) := by
 refine fn_intro (args := [_]) Tryz.func78 rfl rfl Tryz.ntmps78 rfl rfl fun w0 => ?_; refine vc_keep [0] rfl ?_; refine vc_sr ?_; refine vco_box rfl rfl ?_; refine vr 1 ?_; refine vco_k [1] ?_; refine vc_sr ?_; refine vr 3 ?_; refine vco_k [2] ?_; refine vc_ret ⟨.inr rfl, _, .tmp rfl (.nil), ?_⟩; exact ⟨rfl, rfl⟩
end Go.Eng
