/- Walks over package entail, part 3: difference, remainder, multipliers, refutes, Check, Contradicts. -/
import Derived.Test.YtbbjgagpbffooaaGreatA10
import Derived.Test.YtbbjgagpbffooaaGreatEn2
import Derived.Test.YtbbjgagpbffooaaGreatRat4
set_option linter.unusedVariables false
namespace Go.Eng
open Go.Proofs Num Lp
theorem diff_ok {H : Heap} {v pv part : Value} {fs : List Lin} {ys : List Rat} {goal : Lin} {A0 : Option Addr} {c0 N : Nat} {g : Lin → Int} (hv : FmV H v fs) (hgl : SlV TermP 2 H (.slice A0 goal.ts.length c0) goal.ts) (hp : SlV (RatP N) 3 H pv ys) (hpt : PartV H part g) (hlen : ys.length = fs.length) (hn : fs.length ≤ 1000) (hN : N ≤ 400000000) (hok : ∀ (i : Nat) (f : Lin), fs[i]? = some f → LinOk f) (hgo : LinOk goal) (hg : ∀ f, LinOk f → -1048576 ≤ g f ∧ g f ≤ 1048576) :
  Fn Tryz.prog 77 #[v, .agg #[.int .i64 goal.c, .slice A0 goal.ts.length c0], pv, part] H (RetR H (((g goal : Int) : Rat) - wsum fs (fn ys) (fun f => ((g f : Int) : Rat)))) := by
 obtain ⟨A, c, xs, rfl, hc, hr, hx⟩ := id hv
 have hps := hp.rsize
 obtain ⟨Ap, cp, xp, rfl, hcp, hrp, hxp⟩ := id hp
 obtain ⟨fid, cap, rfl, hpart⟩ := hpt
 have hG := hg goal hgo
 have hgi : ∀ i, i < fs.length → -1048576 ≤ g (nth fs i) ∧ g (nth fs i) ≤ 1048576 := fun i hi => hg _ (hok i _ (nth_some hi))
 have hgl16 := hgo.len
 have hsz : ∀ k, k ≤ fs.length → szQ (((g goal : Int) : Rat) - sumN k (fun i => fn ys i * ((g (nth fs i) : Int) : Rat))) ≤ 1000000000000 := fun k hk => sub_sz (szQ_int hG) (wsum_sz hps hlen hn hN hgi hk); refine fn_intro (args := [_, _, _, _]) Tryz.func77 rfl rfl Tryz.ntmps77 rfl rfl fun w0 => ?_; refine vc_keep [0, 1, 2, 3] rfl ?_; refine vc_sr ?_; refine vco_box rfl rfl ?_; refine vco_alloc el36 rfl ?_; refine vco_k [0, 2, 3, 5, 8] ?_; refine vc_sr ?_; refine vr 2 ?_; refine vco_callC (cap := cap) (args := [.agg #[.int .i64 goal.c, .slice A0 goal.ts.length c0]]) rfl rfl (hpart H (.refl _) goal A0 c0 hgl (by omega)) (.inl rfl) ?_; rintro _ _ ⟨e1, rfl⟩; rw [e1]; refine vco_call rfl rfl ((FromInt_ok (n := g goal) (by omega) (by omega)).rc) ?_; rintro _ H1 ⟨hl1, t1, rfl, hq1⟩; refine vco_alloc el36 rfl ?_; obtain ⟨ti, hti, htz⟩ := sz36; refine vco_bstore (.inl ⟨rfl, rfl⟩) rfl rfl rfl hti htz rfl rfl rfl ?_; refine vco_k [0, 2, 3, 8, 9] ?_; refine vc_seq ?_; refine vc_sr ?_; refine vr 3 ?_; refine vco_k [2, 3, 8, 9, 17, 18, 19] ?_; refine vc_block ?_; refine vc_loop2 (fun (i : Nat) (t : RC) => fs.length - i) (fun (i : Nat) (t : RC) => put (put (put (put (put (put (put (emp) 2 (.val (.slice Ap ys.length cp))) 3 (.val (.func (.func fid) #[] cap.toArray))) 8 (.box [.bool false, .slice none 0 0, .slice none 0 0])) 9 (.box [.bool t.f, .slice t.A1 t.m1 t.c1, .slice t.A2 t.m2 t.c2])) 17 (.val (.slice A fs.length c))) 18 (.val (.int .i64 (fs.length : Int)))) 19 (.val (.int .i64 (i : Int)))) (fun (i : Nat) (t : RC) H' => Heap.le H H' ∧ CanV H' t.v (((g goal : Int) : Rat) - sumN i (fun i => fn ys i * ((g (nth fs i) : Int) : Rat))) ∧ i ≤ fs.length) 0 t1 (⟨hl1, by rw [sumN_zero, show ∀ q : Rat, q - 0 = q from fun q => by grind]; exact hq1, Nat.zero_le _⟩) sub_auto ?_
 rintro i t H2 ⟨hl2, hq2, hi⟩; refine vc_sr ?_; refine vr 1 ?_; refine vco_k [2, 3, 8, 9, 17, 18, 19, 20] ?_; refine vc_seq ?_; refine vc_cond rfl (fun hb => ?_) (fun hb => ?_)
 ·
  have him : i < fs.length := by simpa using hb
  obtain ⟨f, hf⟩ : ∃ f, fs[i]? = some f := ⟨_, List.getElem?_eq_getElem him⟩; obtain ⟨B, cb, hfs, hxf⟩ := form_get hx hf; have hfo := hok i f hf; have hf16 := hfo.len; have hgf := hg f hfo; have hnf := nth_get hf; obtain ⟨q, hqk⟩ : ∃ q, ys[i]? = some q := ⟨_, List.getElem?_eq_getElem (by omega)⟩; obtain ⟨g5, B1, k1, e1, B2, k2, e2, hsg5, hraw5, hqx⟩ := SlV.seg3 hxp hqk; have hfq := fn_get hqk; have hz1 := hsz i hi; have hz3 := szQ_mul q ((g f : Int) : Rat); have hz4 := hraw5.size; have hz5 := szQ_int hgf; refine vc_skip ?_; refine vc_keep [2, 3, 8, 9, 17, 18, 19] rfl ?_; refine vc_seq ?_; refine vc_block ?_; refine vc_sr ?_; refine vr 1 ?_; refine vco_at_st tbOk rfl rfl rfl rfl (hr.le hl2) rfl (by decide) (hxf) (by omega) (by omega) fun _ => ?_; refine vco_alloc el25 rfl ?_; refine vr 1 ?_; obtain ⟨ti, hti, htz⟩ := sz25; refine vco_bstore (.inl ⟨rfl, rfl⟩) rfl rfl rfl hti htz rfl rfl rfl ?_; refine vco_k [2, 3, 8, 9, 10, 11, 17, 18, 19] ?_; refine vc_sr ?_; refine vr 2 ?_; refine vco_callC (cap := cap) (args := [.agg #[.int .i64 f.c, .slice B f.ts.length cb]]) rfl rfl (hpart H2 hl2 f B cb (hfs.le termUp hl2) (by omega)) (.inl rfl) ?_; rintro _ _ ⟨e3, rfl⟩; rw [e3]; refine vr 1 ?_; refine vco_k [2, 3, 8, 9, 10, 12, 17, 18, 19] ?_; refine vc_sr ?_; refine vr 2 ?_; refine vco_k [2, 3, 8, 9, 10, 12, 17, 18, 19, 28] ?_; refine vc_cond rfl (fun hb => ?_) (fun hb => ?_)
  ·
   skip
   refine vc_draw .drawB [0, 1, 2, 3, 4, 5, 6, 7, 8, 9] follows (by kernel_rfl) ?_; refine vr 3 ?_; refine vco_at_st (vs := [.bool g5, .slice B1 k1 e1, .slice B2 k2 e2]) tbOk rfl rfl rfl rfl (hrp.le hl2) rfl (by decide) hqx (by omega) (by omega) fun _ => ?_; refine vr 1 ?_; refine vco_callM rfl rfl ((FromInt_ok (n := g f) (by omega) (by omega)).rc) (fun _ _ h => by first | exact h.le | exact h.1) ?_; rintro _ H3 ⟨hl3, t3, rfl, hq3⟩; refine vco_callM rfl rfl ((Mul_ok (N := N + 20) ((((hraw5.le hl2).le hl3)).mono (by omega)) ((CanV.raw hq3).mono (by omega)) (by omega)).rc) (fun _ _ h => by first | exact h.le | exact h.1) ?_; rintro _ H4 ⟨hl4, t4, rfl, hq4⟩; refine vco_callM rfl rfl ((Sub_ok (N := 1000000000000) ((((CanV.raw hq2).mono hz1).le hl3).le hl4) ((CanV.raw hq4).mono (by omega)) (by decide)).rc) (fun _ _ h => by first | exact h.le | exact h.1) ?_; rintro _ H5 ⟨hl5, t5, rfl, hq5⟩; rw [← hfq, ← hnf, show ∀ a b c : Rat, a - b - c = a - (b + c) from fun a b c => by grind, ← sumN_succ i (fun i => fn ys i * ((g (nth fs i) : Int) : Rat))] at hq5; obtain ⟨ti, hti, htz⟩ := sz36; refine vco_bstore (.inl ⟨rfl, rfl⟩) rfl rfl rfl hti htz rfl rfl rfl ?_; refine vco_end ?_; refine vc_keep [2, 3, 8, 9, 17, 18, 19] rfl ?_; refine vc_region rfl ?_; refine vco_add rfl rfl ⟨by omega, by omega⟩ ?_; refine vr 1 ?_; refine vco_end ?_; exact ⟨i + 1, t5, by omega, sub_auto, hl2.trans (hl3.trans (hl4.trans hl5)), hq5, by omega⟩
  ·
   have h0 : g (nth fs i) = 0 := by rw [hnf]; simpa using hb
   refine vc_skip ?_; refine vc_keep [2, 3, 8, 9, 17, 18, 19] rfl ?_; refine vc_region rfl ?_; refine vco_add rfl rfl ⟨by omega, by omega⟩ ?_; refine vr 1 ?_; refine vco_end ?_; exact ⟨i + 1, t, by omega, sub_auto, hl2, by rw [sumN_succ, h0, show ((0 : Int) : Rat) = 0 from rfl, Rat.mul_zero, show ∀ q : Rat, q + 0 = q from fun q => by grind]; exact hq2, by omega⟩
 ·
  have hb : fs.length ≤ i := by simpa using hb
  obtain rfl : i = fs.length := by omega
  refine vc_exit ?_; refine vc_keep [8, 9] rfl ?_; refine vc_sr ?_; refine vr 1 ?_; obtain ⟨ti, hti, htz⟩ := sz36; refine vco_bstore (.inl ⟨rfl, rfl⟩) rfl rfl rfl hti htz rfl rfl rfl ?_; refine vco_k [8] ?_; obtain ⟨ri0, rhi0, rhz0⟩ := sz36; refine vc_ret ⟨.inr rfl, _, .agg rfl Tryz.underlying36 rhi0 rhz0 (.nil), ?_⟩; exact ⟨hl2, t, rfl, hq2⟩
theorem bne_f {a b : Int} (h : (a != b) = false) : a = b := by simpa using h
theorem bne_t {a b : Int} (h : (a != b) = true) : ¬ a = b := by simpa using h
/-- The arguments of a check. -/
structure EntA (N : Nat) (H : Heap) (v pv : Value) (fs : List Lin) (ys : List Rat) : Prop where
  fv : FmV H v fs
  py : SlV (RatP N) 3 H pv ys
  big : N ≤ 400000000
theorem EntA.le {N : Nat} {H H' : Heap} {v pv : Value} {fs : List Lin} {ys : List Rat} (h : EntA N H v pv fs ys) (hl : Heap.le H H') : EntA N H' v pv fs ys := ⟨h.fv.le formUp hl, h.py.le (ratUp N) hl, h.big⟩
theorem zero_diff {a b : Rat} : sgnQ (a - b) = 0 ↔ b = a := by
  rw [sgn_eq]; constructor <;> intro <;> grind
theorem comb_all {fs : List Lin} {g : Lin} {y : Nat → Rat} (h : ∀ (k : Nat) (x : Int), (ment (fs ++ [g]))[k]? = some x → comb fs y x = ((g.coef x : Int) : Rat)) (x : Int) : comb fs y x = ((g.coef x : Int) : Rat) := by
  by_cases hm : x ∈ ment (fs ++ [g])
  · obtain ⟨k, hk⟩ := List.getElem?_of_mem hm
    exact h k x hk
  · rw [comb_out fun h => hm ?_, coef_out fun h => hm (mem_ment.2 ⟨g, by simp, h⟩)]
    · rfl
    · obtain ⟨f, h4, h5⟩ := mem_ment.1 h
      exact mem_ment.2 ⟨f, by simp [h4], h5⟩
theorem ment1_len {fs : List Lin} {g : Lin} (h : FactsOk fs) (hg : LinOk g) : (ment (fs ++ [g])).length ≤ 4000 := by
  have h1 := ment_len (fs ++ [g])
  have h2 := allVars_len (k := 16) (fs := fs ++ [g]) fun f hf => by
    rcases List.mem_append.1 hf with hf | hf
    · obtain ⟨i, hi⟩ := List.getElem?_of_mem hf; exact (h.ok i f hi).len
    · rw [List.mem_singleton.1 hf]; exact hg.len
  have h3 := h.len
  have h4 : (fs ++ [g]).length * 16 ≤ 201 * 16 := Nat.mul_le_mul_right _ (by rw [List.length_append, List.length_singleton]; omega)
  omega
theorem lens1 {fs : List Lin} {g : Lin} (h : FactsOk fs) (hg : LinOk g) : ∀ f, f ∈ fs ++ [g] → f.ts.length ≤ 1000 := fun f hf => by
  rcases List.mem_append.1 hf with hf | hf
  · obtain ⟨i, hi⟩ := List.getElem?_of_mem hf; have := (h.ok i f hi).len; omega
  · rw [List.mem_singleton.1 hf]; have := hg.len; omega
/-- What remainder gives. -/
def RemP (fs : List Lin) (g : Lin) (y : Nat → Rat) (H : Heap) (v : Value) (H' : Heap) : Prop := Heap.le H H' ∧ ∃ (t : RC) (b : Bool), v = .tuple #[t.v, .bool b] ∧ (b = true ↔ ∀ x, comb fs y x = ((g.coef x : Int) : Rat)) ∧ ∃ q, RawV H' t.v q 1000000000000 ∧ (b = true → q = ((g.c : Int) : Rat) - combC fs y)
theorem remain_ok {H : Heap} {v pv : Value} {fs : List Lin} {ys : List Rat} {goal : Lin} {A0 : Option Addr} {c0 N : Nat} (ha : EntA N H v pv fs ys) (hgl : SlV TermP 2 H (.slice A0 goal.ts.length c0) goal.ts) (hlen : ys.length = fs.length) (hfo : FactsOk fs) (hgo : LinOk goal) :
  Fn Tryz.prog 46 #[v, .agg #[.int .i64 goal.c, .slice A0 goal.ts.length c0], pv] H (RemP fs goal (fn ys) H) := by
 have hv := ha.fv
 have hp := ha.py
 have hN := ha.big
 have hn := hfo.len
 have hvl := ment1_len hfo hgo
 obtain ⟨A, c, xs, rfl, hc, hr, hx⟩ := id hv
 obtain ⟨Ap, cp, xp, rfl, hcp, hrp, hxp⟩ := id hp; refine fn_intro (args := [_, _, _]) Tryz.func46 rfl rfl Tryz.ntmps46 rfl rfl fun w0 => ?_; refine vc_keep [0, 1, 2] rfl ?_; refine vc_sr ?_; refine vco_box rfl rfl ?_; refine vco_alloc el36 rfl ?_; refine vr 1 ?_; refine vco_k [0, 2, 4, 6] ?_; refine vc_sd .drawB [0, 2, 1, 3, 4, 5] follows (by kernel_rfl) ?_; refine vr 2 ?_; refine vco_callM rfl rfl (fclone_ok hv (by omega)) (fun _ _ h => by first | exact h.le | exact h.1) ?_; rintro v1 H1 ⟨y1, hG1⟩; obtain ⟨W, cw, rfl⟩ := hG1.form; refine vco_build Tryz.underlying22 el25 rfl rfl rfl rfl rfl rfl rfl ?_; intro gb hgb; refine vco_push formUp oneForm Tryz.underlying22 el25 rfl rfl hG1 hgb (show FormP _ [_, _] goal from ⟨A0, c0, rfl, hgl.le termUp hG1.base⟩) rfl (by omega) (by omega) ?_; intro v4 H4 y4 hG4 _; obtain ⟨W4, cw4, rfl⟩ := hG4.form; have hs4 := hG4.sl formUp; have hl4 := hG4.le; refine vr 1 ?_; refine vco_k [0, 2, 4, 6, 8] ?_; refine vc_seq ?_; refine vc_sr ?_; refine vr 1 ?_; refine vco_call rfl rfl (vars_ok hs4 (by rw [List.length_append, List.length_singleton]; omega) (lens1 hfo hgo)) ?_; rintro _ H5 ⟨hl5, A5, c5, rfl, hs5⟩; obtain ⟨_, _, x5, e5, hc5, hr5, hx5⟩ := id hs5
 cases e5
 have h05 := hl4.trans hl5; refine vr 2 ?_; refine vco_k [0, 2, 4, 6, 18, 19, 20] ?_; refine vc_block ?_; refine vc_loop1 (fun (i : Nat) => (ment (fs ++ [goal])).length - i) (fun (i : Nat) => put (put (put (put (put (put (put (emp) 0 (.val (.slice A fs.length c))) 2 (.val (.slice Ap ys.length cp))) 4 (.box [.int .i64 goal.c, .slice A0 goal.ts.length c0])) 6 (.box [.bool false, .slice none 0 0, .slice none 0 0])) 18 (.val (.slice A5 (ment (fs ++ [goal])).length c5))) 19 (.val (.int .i64 ((ment (fs ++ [goal])).length : Int)))) 20 (.val (.int .i64 (i : Int)))) (fun (i : Nat) H' => Heap.le H5 H' ∧ i ≤ (ment (fs ++ [goal])).length ∧ ∀ (k : Nat) (x : Int), k < i → (ment (fs ++ [goal]))[k]? = some x → comb fs (fn ys) x = ((goal.coef x : Int) : Rat)) 0 (⟨.refl _, Nat.zero_le _, fun k x h => by omega⟩) sub_auto ?_; rintro i H6 ⟨hl6, hi, hk⟩; refine vc_sr ?_; refine vr 1 ?_; refine vco_k [0, 2, 4, 6, 18, 19, 20, 21] ?_; refine vc_seq ?_; refine vc_cond rfl (fun hb => ?_) (fun hb => ?_)
 ·
  have him : i < (ment (fs ++ [goal])).length := by simpa using hb
  obtain ⟨x, hxi⟩ : ∃ x, (ment (fs ++ [goal]))[i]? = some x := ⟨_, List.getElem?_eq_getElem him⟩; refine vc_skip ?_; refine vc_keep [0, 2, 4, 6, 18, 19, 20] rfl ?_; refine vc_seq ?_; refine vc_block ?_; refine vc_sr ?_; refine vco_at tbOk rfl rfl rfl rfl rfl (hr5.le hl6) (by rw [Int.toNat_natCast]; exact int_get hx5 hxi) (by omega) (by omega) fun _ => ?_; refine vco_halloc el3 rfl ?_; intro gx hgx; obtain ⟨ti, hti, htz⟩ := sz3; refine vco_hst (g := gx) (o := 0) (.inl rfl) rfl (ins_same _ _ _) rfl (by decide) hti htz rfl rfl rfl rfl ?_; obtain ⟨hl7, hcx⟩ := hst_cell (e := 3) 0 x hgx; refine vco_k [0, 2, 4, 6, 10, 18, 19, 20] ?_
  generalize ins (ins H6 gx (whole [.int .i64 0] 3)) gx { whole [.int .i64 0] 3 with xs := splice (whole [.int .i64 0] 3).xs 0 [.int .i64 x] } = H7 at hl7 hcx ⊢
  have h07 := h05.trans (hl6.trans hl7); refine vc_sr ?_; refine vco_mkfunc (cap := [.pointer (some ⟨gx, 0, none⟩)]) rfl ?_; refine vr 1 ?_; refine vco_k [0, 2, 4, 6, 11, 18, 19, 20] ?_; refine vc_sr ?_; refine vr 4 ?_; refine vco_call rfl rfl (diff_ok (g := fun f => f.coef x) (hv.le formUp h07) (hgl.le termUp h07) (hp.le (ratUp N) h07) ⟨75, [.pointer (some ⟨gx, 0, none⟩)], rfl, fun H9 hl9 f A c hf hlf => part1_ok (cell_le hl9 hcx) hf hlf⟩ hlen (by omega) hN hfo.ok hgo (fun f h => h.coef_le x)) ?_; rintro _ H8 ⟨hl8, t8, rfl, hq8⟩; have hsz : ∀ k, k ≤ fs.length → szQ (((goal.coef x : Int) : Rat) - sumN k (fun i => fn ys i * (((nth fs i).coef x : Int) : Rat))) ≤ 1000000000000 := fun k hk => sub_sz (szQ_int (hgo.coef_le x)) (wsum_sz (g := fun f => f.coef x) hp.rsize hlen (by omega) hN (fun i hi => (hfo.ok i _ (nth_some hi)).coef_le x) hk); refine vco_call rfl rfl (Sign_ok (N := 1000000000000) ((CanV.raw hq8).mono (hsz _ (Nat.le_refl _))) (by decide)) ?_; rintro _ H9 ⟨hl9, rfl⟩; refine vr 1 ?_; refine vco_k [0, 2, 4, 6, 18, 19, 20, 31] ?_; refine vc_cond rfl (fun hb => ?_) (fun hb => ?_)
  ·
   have h0 : ¬ sgnQ (((goal.coef x : Int) : Rat) - comb fs (fn ys) x) = 0 := bne_t hb; refine vc_sr ?_; refine vco_st tbOk rfl el36 rfl rfl ?_; obtain ⟨ti, hti, htz⟩ := sz36; refine vco_bstore (.inl ⟨rfl, rfl⟩) rfl rfl rfl hti htz rfl rfl rfl ?_; refine vr 1 ?_; refine vco_k [6, 7] ?_; obtain ⟨ri0, rhi0, rhz0⟩ := sz36; refine vc_ret ⟨.inr rfl, _, .agg rfl Tryz.underlying36 rhi0 rhz0 (.tmp rfl (.nil)), ?_⟩; exact ⟨h07.trans (hl8.trans hl9), ⟨false, none, 0, 0, none, 0, 0⟩, false, rfl, ⟨(fun h => by cases h), fun h => absurd (zero_diff.2 (h x)) h0⟩, 0, rawV_zero, fun h => by cases h⟩
  ·
   have h0 : sgnQ (((goal.coef x : Int) : Rat) - comb fs (fn ys) x) = 0 := bne_f hb; refine vc_skip ?_; refine vc_keep [0, 2, 4, 6, 18, 19, 20] rfl ?_; refine vc_region rfl ?_; refine vco_add rfl rfl ⟨by omega, by omega⟩ ?_; refine vr 1 ?_; refine vco_end ?_; exact ⟨i + 1, by omega, sub_auto, hl6.trans (hl7.trans (hl8.trans hl9)), by omega, fun k z h9 hz9 => by by_cases e : k < i; exact hk k z e hz9; (obtain rfl : k = i := by omega); rw [hxi] at hz9; cases hz9; exact zero_diff.1 h0⟩
 ·
  have hb : (ment (fs ++ [goal])).length ≤ i := by simpa using hb
  have hall := comb_all fun k x hkx => hk k x (by have := (List.getElem?_eq_some_iff.1 hkx).1; omega) hkx; have h06 := h05.trans hl6; have hsz : ∀ k, k ≤ fs.length → szQ (((goal.c : Int) : Rat) - sumN k (fun i => fn ys i * (((nth fs i).c : Int) : Rat))) ≤ 1000000000000 := fun k hk => sub_sz (szQ_int hgo.const) (wsum_sz (g := fun f => f.c) hp.rsize hlen (by omega) hN (fun i hi => (hfo.ok i _ (nth_some hi)).const) hk); refine vc_exit ?_; refine vc_keep [0, 2, 4, 6] rfl ?_; refine vc_sr ?_; refine vr 3 ?_; refine vco_call rfl rfl (diff_ok (g := fun f => f.c) (hv.le formUp h06) (hgl.le termUp h06) (hp.le (ratUp N) h06) ⟨78, [], rfl, fun H9 hl9 f A c hf hlf => part2_ok⟩ hlen (by omega) hN hfo.ok hgo (fun f h => h.const)) ?_; rintro _ H8 ⟨hl8, t8, rfl, hq8⟩; obtain ⟨ti, hti, htz⟩ := sz36; refine vco_bstore (.inl ⟨rfl, rfl⟩) rfl rfl rfl hti htz rfl rfl rfl ?_; refine vr 1 ?_; refine vco_k [6, 7] ?_; obtain ⟨ri0, rhi0, rhz0⟩ := sz36; refine vc_ret ⟨.inr rfl, _, .agg rfl Tryz.underlying36 rhi0 rhz0 (.tmp rfl (.nil)), ?_⟩; exact ⟨h06.trans hl8, t8, true, rfl, ⟨fun _ => hall, fun _ => rfl⟩, _, (CanV.raw hq8).mono (hsz _ (Nat.le_refl _)), fun _ => rfl⟩
theorem mults_ok {H : Heap} {v pv : Value} {fs : List Lin} {ys : List Rat} {N : Nat} (ha : EntA N H v pv fs ys) (hn : fs.length ≤ 1000) :
  Fn Tryz.prog 45 #[v, pv] H (fun v' H' => Heap.le H H' ∧ ∃ b, v' = .bool b ∧ (b = true ↔ ys.length = fs.length ∧ NonN fs.length (fn ys))) := by
 have hN := ha.big
 obtain ⟨A, c, xs, rfl, hc, hr, hx⟩ := id ha.fv
 obtain ⟨Ap, cp, xp, rfl, hcp, hrp, hxp⟩ := id ha.py; refine fn_intro (args := [_, _]) Tryz.func45 rfl rfl Tryz.ntmps45 rfl rfl fun w0 => ?_; refine vc_keep [0, 1] rfl ?_; refine vc_sr ?_; refine vr 1 ?_; refine vco_k [0, 1] ?_; refine vc_seq ?_; refine vc_sr ?_; refine vr 5 ?_; refine vco_k [1, 11] ?_; refine vc_cond rfl (fun hb => ?_) (fun hb => ?_)
 ·
  have h1 : ¬ fs.length = ys.length := by simpa [Int.natCast_inj] using hb
  refine vc_sr ?_; refine vr 1 ?_; refine vco_k [4] ?_; refine vc_ret ⟨.inr rfl, _, .tmp rfl (.nil), ?_⟩; exact ⟨.refl _, false, rfl, ⟨(fun h => by cases h), fun h => absurd h.1.symm h1⟩⟩
 ·
  have h1 : fs.length = ys.length := by simpa [Int.natCast_inj] using hb
  refine vc_skip ?_; refine vc_keep [1] rfl ?_; refine vc_seq ?_; refine vc_sr ?_; refine vr 3 ?_; refine vco_k [12, 13, 14] ?_; refine vc_block ?_; refine vc_loop1 (fun (i : Nat) => ys.length - i) (fun (i : Nat) => put (put (put (emp) 12 (.val (.slice Ap ys.length cp))) 13 (.val (.int .i64 (ys.length : Int)))) 14 (.val (.int .i64 (i : Int)))) (fun (i : Nat) H' => Heap.le H H' ∧ i ≤ ys.length ∧ ∀ k, k < i → 0 ≤ fn ys k) 0 (⟨.refl _, Nat.zero_le _, fun k h => by omega⟩) sub_auto ?_; rintro i H1 ⟨hl1, hi, hk⟩; refine vc_sr ?_; refine vr 1 ?_; refine vco_k [12, 13, 14, 15] ?_; refine vc_seq ?_; refine vc_cond rfl (fun hb => ?_) (fun hb => ?_)
  ·
   have him : i < ys.length := by simpa using hb
   obtain ⟨q, hqk⟩ : ∃ q, ys[i]? = some q := ⟨_, List.getElem?_eq_getElem him⟩; obtain ⟨g5, B1, k1, e1, B2, k2, e2, hsg5, hraw5, hqx⟩ := SlV.seg3 hxp hqk; have hfq := fn_get hqk; refine vc_skip ?_; refine vc_keep [12, 13, 14] rfl ?_; refine vc_seq ?_; refine vc_block ?_; refine vc_sr ?_; refine vco_at_st (vs := [.bool g5, .slice B1 k1 e1, .slice B2 k2 e2]) tbOk rfl rfl rfl rfl (hrp.le hl1) rfl (by decide) hqx (by omega) (by omega) fun _ => ?_; refine vco_alloc el36 rfl ?_; obtain ⟨ti, hti, htz⟩ := sz36; refine vco_bstore (.inl ⟨rfl, rfl⟩) rfl rfl rfl hti htz rfl rfl rfl ?_; refine vco_k [6, 12, 13, 14] ?_; refine vc_sr ?_; refine vr 1 ?_; refine vco_call rfl rfl (Sign_ok (N := N) (hraw5.le hl1) (by omega)) ?_; rintro _ H2 ⟨hl2, rfl⟩; refine vr 1 ?_; refine vco_k [12, 13, 14, 20] ?_; refine vc_cond rfl (fun hb => ?_) (fun hb => ?_)
   ·
    have h2 : sgnQ q < 0 := by simpa using hb
    refine vc_sr ?_; refine vr 1 ?_; refine vco_k [4] ?_; refine vc_ret ⟨.inr rfl, _, .tmp rfl (.nil), ?_⟩; exact ⟨hl1.trans hl2, false, rfl, ⟨(fun h => by cases h), fun h => absurd (sgn_ge.2 (hfq ▸ h.2 i (by omega))) (by omega)⟩⟩
   ·
    have h2 : 0 ≤ sgnQ q := by simpa using hb
    refine vc_skip ?_; refine vc_keep [12, 13, 14] rfl ?_; refine vc_region rfl ?_; refine vco_add rfl rfl ⟨by omega, by omega⟩ ?_; refine vr 1 ?_; refine vco_end ?_; exact ⟨i + 1, by omega, sub_auto, hl1.trans hl2, by omega, fun k h9 => by by_cases e : k < i; exact hk k e; (obtain rfl : k = i := by omega); rw [hfq]; exact sgn_ge.1 (by omega)⟩
  ·
   have hb : ys.length ≤ i := by simpa using hb
   refine vc_exit ?_; refine vc_keep [] rfl ?_; refine vc_sr ?_; refine vr 1 ?_; refine vco_k [4] ?_; refine vc_ret ⟨.inr rfl, _, .tmp rfl (.nil), ?_⟩; exact ⟨hl1, true, rfl, ⟨fun _ => ⟨h1.symm, fun k h => hk k (by omega)⟩, fun _ => rfl⟩⟩
theorem sgn_pos {q : Rat} : 0 < sgnQ q ↔ 0 < q := by unfold sgnQ; split; (constructor <;> intro <;> grind); split; (constructor <;> intro <;> grind); (constructor <;> intro <;> grind)
theorem ref_of {fs : List Lin} {ys : List Rat} {q : Rat} (hp : NonN fs.length (fn ys)) (hc : ∀ x, comb fs (fn ys) x = ((lin0.coef x : Int) : Rat)) (hq : q = ((lin0.c : Int) : Rat) - combC fs (fn ys)) : 0 < sgnQ q ↔ Ref fs (fn ys) := by
  have h0 : ((lin0.c : Int) : Rat) = 0 := rfl
  rw [sgn_pos, hq, h0]
  exact ⟨fun h => ⟨hp, fun v => hc v, by grind⟩, fun h => by have := h.const; grind⟩
def CheckE (fs : List Lin) (g : Lin) (ys : List Rat) : Prop := FactsOk fs ∧ LinOk g ∧ (ys.length = fs.length ∧ NonN fs.length (fn ys)) ∧ (Lp.Ent fs g (fn ys) ∨ Ref fs (fn ys))
def ContraE (fs : List Lin) (ys : List Rat) : Prop := FactsOk fs ∧ (ys.length = fs.length ∧ NonN fs.length (fn ys)) ∧ Ref fs (fn ys)
theorem refutes_ok {H : Heap} {v pv : Value} {fs : List Lin} {ys : List Rat} {N : Nat} (ha : EntA N H v pv fs ys) (hlen : ys.length = fs.length) (hpos : NonN fs.length (fn ys)) (hfo : FactsOk fs) :
  Fn Tryz.prog 48 #[v, pv] H (fun v' H' => Heap.le H H' ∧ ∃ b, v' = .bool b ∧ (b = true ↔ Ref fs (fn ys))) := by
 obtain ⟨A, c, xs, rfl, hc, hr, hx⟩ := id ha.fv
 obtain ⟨Ap, cp, xp, rfl, hcp, hrp, hxp⟩ := id ha.py; refine fn_intro (args := [_, _]) Tryz.func48 rfl rfl Tryz.ntmps48 rfl rfl fun w0 => ?_; refine vc_keep [0, 1] rfl ?_; refine vc_sr ?_; refine vr 1 ?_; refine vco_k [0, 1] ?_; refine vc_sr ?_; refine vr 1 ?_; refine vco_st tbOk rfl el25 rfl rfl ?_; refine vr 1 ?_; refine vco_call rfl rfl (remain_ok (goal := lin0) (A0 := none) (c0 := 0) ha SlV.nil hlen hfo lin0_ok) ?_; rintro _ H1 ⟨hl1, t1, b1, rfl, hb1, q1, hraw1, hq1⟩; refine vr 3 ?_; refine vco_alloc el36 rfl ?_; obtain ⟨ti, hti, htz⟩ := sz36; refine vco_bstore (.inl ⟨rfl, rfl⟩) rfl rfl rfl hti htz rfl rfl rfl ?_; refine vr 1 ?_; refine vco_k [5, 6] ?_
 cases b1
 ·
  skip
  refine vc_sr ?_; refine vr 7 ?_; refine vco_k [4] ?_; refine vc_ret ⟨.inr rfl, _, .tmp rfl (.nil), ?_⟩; exact ⟨hl1, false, rfl, ⟨(fun h => by cases h), fun h => (by have h9 := hb1.2 (fun x => (h.coef x).trans rfl); cases h9)⟩⟩
 ·
  skip
  refine vc_sr ?_; refine vr 3 ?_; refine vco_call rfl rfl (Sign_ok (N := 1000000000000) hraw1 (by decide)) ?_; rintro _ H2 ⟨hl2, rfl⟩; refine vr 3 ?_; refine vco_k [4] ?_; refine vc_ret ⟨.inr rfl, _, .tmp rfl (.nil), ?_⟩; exact ⟨hl1.trans hl2, _, rfl, by rw [decide_eq_true_iff]; exact ref_of hpos (hb1.1 rfl) (hq1 rfl)⟩
theorem echeck_ok {H : Heap} {v pv : Value} {fs : List Lin} {ys : List Rat} {goal : Lin} {A0 : Option Addr} {c0 N : Nat} (ha : EntA N H v pv fs ys) (hgl : SlV TermP 2 H (.slice A0 goal.ts.length c0) goal.ts) :
  Fn Tryz.prog 20 #[v, .agg #[.int .i64 goal.c, .slice A0 goal.ts.length c0], pv] H (fun v' H' => Heap.le H H' ∧ ∃ b, v' = .bool b ∧ (b = true ↔ CheckE fs goal ys)) := by
 obtain ⟨A, c, xs, rfl, hc, hr, hx⟩ := id ha.fv
 obtain ⟨Ap, cp, xp, rfl, hcp, hrp, hxp⟩ := id ha.py; refine fn_intro (args := [_, _, _]) Tryz.func20 rfl rfl Tryz.ntmps20 rfl rfl fun w0 => ?_; refine vc_keep [0, 1, 2] rfl ?_; refine vc_sr ?_; refine vco_box rfl rfl ?_; refine vr 1 ?_; refine vco_k [0, 2, 4] ?_; refine vc_seq ?_; refine vc_sr ?_; refine vr 1 ?_; refine vco_call rfl rfl (evalid_ok ha.fv) ?_; rintro _ H1 ⟨hl1, b1, rfl, hb1⟩
 cases b1
 ·
  skip
  refine vr 12 ?_; refine vco_k [0, 2, 4, 22] ?_; refine vc_cond_t rfl ?_; refine vc_sr ?_; refine vr 1 ?_; refine vco_k [6] ?_; refine vc_ret ⟨.inr rfl, _, .tmp rfl (.nil), ?_⟩; exact ⟨hl1, false, rfl, ⟨(fun h => by cases h), fun h => (by have h9 := hb1.2 h.1; cases h9)⟩⟩
 ·
  skip
  refine vr 3 ?_; refine vco_call rfl rfl (lvalid_ok (hgl.le termUp hl1)) ?_; rintro _ H2 ⟨e2, b2, rfl, hb2⟩; rw [e2]
  cases b2
  ·
   skip
   refine vr 8 ?_; refine vco_k [0, 2, 4, 22] ?_; refine vc_cond_t rfl ?_; refine vc_sr ?_; refine vr 1 ?_; refine vco_k [6] ?_; refine vc_ret ⟨.inr rfl, _, .tmp rfl (.nil), ?_⟩; exact ⟨hl1, false, rfl, ⟨(fun h => by cases h), fun h => (by have h9 := hb2.2 h.2.1; cases h9)⟩⟩
  ·
   skip
   refine vr 5 ?_; refine vco_call rfl rfl (mults_ok (ha.le hl1) (by have := (hb1.1 rfl).len; omega)) ?_; rintro _ H3 ⟨hl3, b3, rfl, hb3⟩
   cases b3
   ·
    skip
    refine vr 2 ?_; refine vco_k [0, 2, 4, 22] ?_; refine vc_cond_t rfl ?_; refine vc_sr ?_; refine vr 1 ?_; refine vco_k [6] ?_; refine vc_ret ⟨.inr rfl, _, .tmp rfl (.nil), ?_⟩; exact ⟨hl1.trans hl3, false, rfl, ⟨(fun h => by cases h), fun h => (by have h9 := hb3.2 h.2.2.1; cases h9)⟩⟩
   ·
    have hfo := hb1.1 rfl; have hgo := hb2.1 rfl; obtain ⟨hlen, hpos⟩ := hb3.1 rfl; have h03 := hl1.trans hl3; refine vr 2 ?_; refine vco_k [0, 2, 4, 22] ?_; refine vc_cond_f rfl ?_; refine vc_skip ?_; refine vc_keep [0, 2, 4] rfl ?_; refine vc_sr ?_; refine vr 3 ?_; refine vco_call rfl rfl (remain_ok (ha.le h03) (hgl.le termUp h03) hlen hfo hgo) ?_; rintro _ H4 ⟨hl4, t4, b4, rfl, hb4, q4, hraw4, hq4⟩; have h04 := h03.trans hl4; refine vr 3 ?_; refine vco_alloc el36 rfl ?_; obtain ⟨ti, hti, htz⟩ := sz36; refine vco_bstore (.inl ⟨rfl, rfl⟩) rfl rfl rfl hti htz rfl rfl rfl ?_; refine vr 1 ?_; refine vco_k [0, 2, 7, 8] ?_
    cases b4
    ·
     skip
     refine vc_sr ?_; refine vr 9 ?_; refine vco_call rfl rfl (refutes_ok (ha.le h04) hlen hpos hfo) ?_; rintro _ H6 ⟨hl6, b6, rfl, hb6⟩; refine vr 2 ?_; refine vco_k [6] ?_; refine vc_ret ⟨.inr rfl, _, .tmp rfl (.nil), ?_⟩; exact ⟨h04.trans hl6, _, rfl, hb6.trans ⟨fun h => ⟨hfo, hgo, ⟨hlen, hpos⟩, .inr h⟩, fun h => h.2.2.2.elim (fun h => (by have h9 := hb4.2 h.coef; cases h9)) id⟩⟩
    ·
     skip
     refine vc_sr ?_; refine vr 3 ?_; refine vco_call rfl rfl (Sign_ok (N := 1000000000000) hraw4 (by decide)) ?_; rintro _ H5 ⟨hl5, rfl⟩; have h05 := h04.trans hl5
     by_cases hs : 0 ≤ sgnQ q4
     ·
      skip
      refine vco_cmp true rfl rfl (cge_t hs) ?_; refine vr 7 ?_; refine vco_k [6] ?_; refine vc_ret ⟨.inr rfl, _, .tmp rfl (.nil), ?_⟩; exact ⟨h05, true, rfl, ⟨fun _ => ⟨hfo, hgo, ⟨hlen, hpos⟩, .inl ⟨hpos, hb4.1 rfl, by have h9 := sgn_ge.1 hs; rw [hq4 rfl] at h9; grind⟩⟩, fun _ => rfl⟩⟩
     ·
      skip
      refine vco_cmp false rfl rfl (cge_f (by omega)) ?_; refine vr 4 ?_; refine vco_call rfl rfl (refutes_ok (ha.le h05) hlen hpos hfo) ?_; rintro _ H6 ⟨hl6, b6, rfl, hb6⟩; refine vr 2 ?_; refine vco_k [6] ?_; refine vc_ret ⟨.inr rfl, _, .tmp rfl (.nil), ?_⟩; exact ⟨h05.trans hl6, _, rfl, hb6.trans ⟨fun h => ⟨hfo, hgo, ⟨hlen, hpos⟩, .inr h⟩, fun h => h.2.2.2.elim (fun h => absurd (sgn_ge.2 (by rw [hq4 rfl]; have h9 := h.const; grind)) hs) id⟩⟩
theorem econtra_ok {H : Heap} {v pv : Value} {fs : List Lin} {ys : List Rat} {N : Nat} (ha : EntA N H v pv fs ys) :
  Fn Tryz.prog 22 #[v, pv] H (fun v' H' => Heap.le H H' ∧ ∃ b, v' = .bool b ∧ (b = true ↔ ContraE fs ys)) := by
 obtain ⟨A, c, xs, rfl, hc, hr, hx⟩ := id ha.fv
 obtain ⟨Ap, cp, xp, rfl, hcp, hrp, hxp⟩ := id ha.py; refine fn_intro (args := [_, _]) Tryz.func22 rfl rfl Tryz.ntmps22 rfl rfl fun w0 => ?_; refine vc_keep [0, 1] rfl ?_; refine vc_sr ?_; refine vr 1 ?_; refine vco_k [0, 1] ?_; refine vc_sr ?_; refine vr 1 ?_; refine vco_call rfl rfl (evalid_ok ha.fv) ?_; rintro _ H1 ⟨hl1, b1, rfl, hb1⟩
 cases b1
 ·
  skip
  refine vr 11 ?_; refine vco_k [4] ?_; refine vc_ret ⟨.inr rfl, _, .tmp rfl (.nil), ?_⟩; exact ⟨hl1, false, rfl, ⟨(fun h => by cases h), fun h => (by have h9 := hb1.2 h.1; cases h9)⟩⟩
 ·
  skip
  refine vr 3 ?_; refine vco_call rfl rfl (mults_ok (ha.le hl1) (by have := (hb1.1 rfl).len; omega)) ?_; rintro _ H3 ⟨hl3, b3, rfl, hb3⟩
  cases b3
  ·
   skip
   refine vr 7 ?_; refine vco_k [4] ?_; refine vc_ret ⟨.inr rfl, _, .tmp rfl (.nil), ?_⟩; exact ⟨hl1.trans hl3, false, rfl, ⟨(fun h => by cases h), fun h => (by have h9 := hb3.2 h.2.1; cases h9)⟩⟩
  ·
   skip
   refine vr 4 ?_; refine vco_call rfl rfl (refutes_ok (ha.le (hl1.trans hl3)) (hb3.1 rfl).1 (hb3.1 rfl).2 (hb1.1 rfl)) ?_; rintro _ H6 ⟨hl6, b6, rfl, hb6⟩; refine vr 2 ?_; refine vco_k [4] ?_; refine vc_ret ⟨.inr rfl, _, .tmp rfl (.nil), ?_⟩; exact ⟨(hl1.trans hl3).trans hl6, _, rfl, hb6.trans ⟨fun h => ⟨hb1.1 rfl, hb3.1 rfl, h⟩, fun h => h.2.2⟩⟩
end Go.Eng
