/- Walks over package entail, part 5: combine, Implies, Refute. -/
import Derived.Test.YtbbjgagpbffooaaGreatA10
import Derived.Test.YtbbjgagpbffooaaGreatEn4
import Derived.Test.YtbbjgagpbffooaaGreatCsz
set_option linter.unusedVariables false
namespace Go.Eng
open Go.Proofs Num Lp
/-- What combine gives. -/
def CombP (P : Prg) (k : Nat) (H : Heap) (v : Value) (H' : Heap) : Prop := Heap.le H H' ∧ ∃ A n c b, v = .tuple #[.slice A n c, .bool b] ∧ ((b = true ∧ ∃ x : List Rat, n = x.length ∧ x.length = k ∧ SlV (RatP KX) 3 H' (.slice A n c) x ∧ P.lp.Meets 1 (fn x)) ∨ (b = false ∧ A = none ∧ n = 0 ∧ c = 0 ∧ ¬ ∃ x, P.lp.Meets 1 x))
def rowC (fs : List Lin) (g : Lin) (v : Int) : List Rat × Int × Rat := (fs.map (fun f => ((f.coef v : Int) : Rat)), (2 : Int), ((g.coef v : Int) : Rat))
theorem ecomb_ok {H : Heap} {v : Value} {fs : List Lin} {goal : Lin} {A0 : Option Addr} {c0 : Nat} {bound : Int} (hv : FmV H v fs) (hgl : SlV TermP 2 H (.slice A0 goal.ts.length c0) goal.ts) (hok : ∀ (i : Nat) (f : Lin), fs[i]? = some f → LinOk f) (hgo : LinOk goal) (hb0 : -1048576 ≤ bound ∧ bound ≤ 1048576) (hfl : fs.length ≤ 6) (hvl : (ment (fs ++ [goal])).length ≤ 100) :
  Fn Tryz.prog 54 #[v, .agg #[.int .i64 goal.c, .slice A0 goal.ts.length c0], .int .i64 bound] H (CombP (cmbP fs (ment (fs ++ [goal])) goal bound) fs.length H) := by
 obtain ⟨A, c, xs, rfl, hc, hr, hx⟩ := id hv
 have hl16 : ∀ f, f ∈ fs ++ [goal] → f.ts.length ≤ 1000 := fun f hf => by
  rcases List.mem_append.1 hf with hf | hf
  · obtain ⟨i, hi⟩ := List.getElem?_of_mem hf; have := (hok i f hi).len; omega
  · rw [List.mem_singleton.1 hf]; have := hgo.len; omega
 refine fn_intro (args := [_, _, _]) Tryz.func54 rfl rfl Tryz.ntmps54 rfl rfl fun w0 => ?_; refine vc_keep [0, 1, 2] rfl ?_; refine vc_sr ?_; refine vco_hbox rfl rfl ?_; intro gf hgf; have hl1 := Heap.le_ins (whole [.slice A fs.length c] 22) hgf
 have hcf1 : cell (ins H gf (whole [.slice A fs.length c] 22)) ⟨gf, 0, none⟩ = some (.slice A fs.length c) := by simp [cell, ins, whole]
 refine vco_box rfl rfl ?_; refine vr 2 ?_; refine vco_k [2, 3, 4] ?_
 generalize ins H gf (whole [.slice A fs.length c] 22) = H1 at hl1 hcf1 ⊢
 refine vc_sr ?_; refine vco_hload tbOk rfl rfl rfl (hcf1) ?_; refine vr 1 ?_; refine vco_make Tryz.underlying80 el4 rfl rfl rfl (by omega) (by omega) (by omega) (by omega) ?_; intro gm hgm; rw [Int.toNat_natCast]; have hl2 := Heap.le_ins ⟨madeL [.bool false] (fs.length * 1), fs.length * 1, 4, true⟩ hgm; have hs2 : SlV BoolP 1 (ins H1 gm ⟨madeL [.bool false] (fs.length * 1), fs.length * 1, 4, true⟩) (.slice (some ⟨gm, 0, none⟩) fs.length fs.length) (List.replicate fs.length false) := ⟨_, fs.length, _, by rw [List.length_replicate], by rw [List.length_replicate]; exact Nat.le_refl _, rd_ins _ _ _ _ _ _, els_made (P := BoolP _) rfl rfl fs.length⟩
 generalize ins H1 gm ⟨madeL [.bool false] (fs.length * 1), fs.length * 1, 4, true⟩ = H2 at hl2 hs2 ⊢
 refine vco_st tbOk rfl el83 rfl rfl ?_; refine vco_halloc el83 rfl ?_; intro gp hgp; obtain ⟨ti, hti, htz⟩ := sz83; refine vco_hst (g := gp) (o := 0) (.inl rfl) rfl (ins_same _ _ _) rfl (Nat.le_refl 2) hti htz rfl rfl rfl rfl ?_; rw [ins_ins]; have hP : PrgB gp (ins H2 gp ⟨[.slice (some ⟨gm, 0, none⟩) fs.length fs.length, .slice none 0 0], 2, 83, true⟩) (.slice (some ⟨gm, 0, none⟩) fs.length fs.length) (.slice none 0 0) [] [] := prgB_new
 have hr4 : rem (ins H2 gp ⟨[.slice (some ⟨gm, 0, none⟩) fs.length fs.length, .slice none 0 0], 2, 83, true⟩) [gp] = H2 := by rw [rem_ins_new _ hgp, rem_nil]
 have h02 := hl1.trans hl2; refine vco_k [2, 3, 4, 8] ?_
 show VC _ _ _ _ _ _ _ (ins H2 gp ⟨[.slice (some ⟨gm, 0, none⟩) fs.length fs.length, .slice none 0 0], 2, 83, true⟩)
 generalize ins H2 gp ⟨[.slice (some ⟨gm, 0, none⟩) fs.length fs.length, .slice none 0 0], 2, 83, true⟩ = H4 at hP hr4 ⊢
 have hcf4 : cell (rem H4 [gp]) ⟨gf, 0, none⟩ = some (.slice A fs.length c) := by rw [hr4]; exact cell_le hl2 hcf1
 have h04 : Heap.le H (rem H4 [gp]) := by rw [hr4]; exact h02
 rw [← hr4] at hs2; refine vc_sr ?_; refine vco_mkfunc (cap := [.pointer (some ⟨gf, 0, none⟩), .pointer (some ⟨gp, 0, none⟩)]) rfl ?_; refine vr 1 ?_; refine vco_k [2, 3, 4, 8, 9] ?_; refine vc_sd .drawB [0, 2, 1, 3, 4, 5] follows (by kernel_rfl) ?_; refine vco_hload tbOk rfl rfl rfl (cell_le (rem_le _ _) hcf4) ?_; refine vr 1 ?_; refine vco_callM rfl rfl (hP.call (fclone_ok (hv.le formUp h04) (by omega))) (fun _ _ h => h.le fun _ _ k => k.le) ?_; rintro v5 H5 hF5; obtain ⟨y5, hG5⟩ := groX_of (by rw [hP.pb]; simp) hF5; obtain ⟨W, cw, rfl⟩ := hG5.form; refine vco_build Tryz.underlying22 el25 rfl rfl rfl rfl rfl rfl rfl ?_; intro gb hgb; have hG6 := hG5.ins formUp (whole (cellsL [.agg #[.int .i64 goal.c, .slice A0 goal.ts.length c0]]) 25) hgb; refine vco_append Tryz.underlying22 el25 rfl rfl hG6.own (rd_ins _ _ _ _ _ _) rfl (oneForm (ins H5 gb (whole (cellsL [.agg #[.int .i64 goal.c, .slice A0 goal.ts.length c0]]) 25)) _ goal ⟨A0, c0, rfl, hgl.le termUp (((h04.trans (rem_le _ _)).trans hG5.le).trans (Heap.le_ins _ hgb))⟩) (by omega) (by omega) ?_; intro v7 H7 ha7; have hG7 := hG6.append formUp (j := [goal]) rfl ha7 (els_one ⟨A0, c0, rfl, hgl.le termUp (h04.trans hG6.base)⟩ rfl); obtain ⟨W7, cw7, rfl⟩ := hG7.form; have hP7 : PrgB gp H7 (.slice (some ⟨gm, 0, none⟩) fs.length fs.length) (.slice none 0 0) [] [] := ⟨(hG7.same gp (List.mem_singleton.2 rfl)).trans hP.pb, own_nil _ _ _, els_nil, fun h => by cases h⟩; have h47 : Heap.le (rem H4 [gp]) (rem H7 [gp]) := hG7.out
 refine vr 1 ?_; refine vco_k [2, 3, 4, 8, 9, 10] ?_; refine vc_seq ?_; refine vc_sr ?_; refine vr 1 ?_; refine vco_call rfl rfl (hP7.call (vars_ok (hG7.sl formUp) (by rw [List.length_append, List.length_singleton]; omega) hl16)) ?_; rintro _ H8 hF8; have hP8 := hP7.framed hF8 fun _ _ h => h.1; obtain ⟨⟨hl8, A5, c5, rfl, hs5⟩, _⟩ := hF8; have hl8 : Heap.le (rem H7 [gp]) (rem H8 [gp]) := hl8; have hs5 : SlV IntP 1 (rem H8 [gp]) (.slice A5 (ment (fs ++ [goal])).length c5) (ment (fs ++ [goal])) := hs5; obtain ⟨_, _, x5, e5, hc5, hr5, hx5⟩ := id hs5
 cases e5
 have h48 := h47.trans hl8; refine vr 2 ?_; refine vco_k [2, 3, 4, 8, 9, 26, 27, 28] ?_; refine vc_block ?_; refine vc_loop3 (fun (i : Nat) (rv : Value) (xs : List Value) => (ment (fs ++ [goal])).length - i) (fun (i : Nat) (rv : Value) (xs : List Value) => put (put (put (put (put (put (put (put (emp) 2 (.val (.int .i64 bound))) 3 (.val (.pointer (some ⟨gf, 0, none⟩)))) 4 (.box [.int .i64 goal.c, .slice A0 goal.ts.length c0])) 8 (.val (.pointer (some ⟨gp, 0, none⟩)))) 9 (.val (.func (.func 84) #[] #[.pointer (some ⟨gf, 0, none⟩), .pointer (some ⟨gp, 0, none⟩)]))) 26 (.val (.slice A5 (ment (fs ++ [goal])).length c5))) 27 (.val (.int .i64 ((ment (fs ++ [goal])).length : Int)))) 28 (.val (.int .i64 (i : Int)))) (fun (i : Nat) (rv : Value) (xs : List Value) H' => PrgB gp H' (.slice (some ⟨gm, 0, none⟩) fs.length fs.length) rv (((ment (fs ++ [goal])).take i).map (rowC fs goal)) xs ∧ Heap.le (rem H8 [gp]) (rem H' (gp :: blk rv)) ∧ i ≤ (ment (fs ++ [goal])).length) 0 (.slice none 0 0) [] (⟨hP8, .refl _, Nat.zero_le _⟩) sub_auto ?_; rintro i rv xs H9 ⟨hP9, hl9, hi⟩; refine vc_sr ?_; refine vr 1 ?_; refine vco_k [2, 3, 4, 8, 9, 26, 27, 28, 29] ?_; refine vc_seq ?_; refine vc_cond rfl (fun hb => ?_) (fun hb => ?_)
 ·
  have him : i < (ment (fs ++ [goal])).length := by simpa using hb
  obtain ⟨x, hxi⟩ : ∃ x, (ment (fs ++ [goal]))[i]? = some x := ⟨_, List.getElem?_eq_getElem him⟩; refine vc_skip ?_; refine vc_keep [2, 3, 4, 8, 9, 26, 27, 28] rfl ?_; refine vc_seq ?_; refine vc_block ?_; refine vc_sr ?_; refine vco_at tbOk rfl rfl rfl rfl rfl (hr5.le (hl9.trans (rem_le _ _))) (by rw [Int.toNat_natCast]; exact int_get hx5 hxi) (by omega) (by omega) fun _ => ?_; refine vco_halloc el3 rfl ?_; intro gx hgx; obtain ⟨ti, hti, htz⟩ := sz3; refine vco_hst (g := gx) (o := 0) (.inl rfl) rfl (ins_same _ _ _) rfl (by decide) hti htz rfl rfl rfl rfl ?_; obtain ⟨hP10, hl10, hcx⟩ := new_int (e := 3) 0 x hgx hP9; refine vco_k [2, 3, 4, 8, 9, 12, 26, 27, 28] ?_
  generalize ins (ins H9 gx (whole [.int .i64 0] 3)) gx { whole [.int .i64 0] 3 with xs := splice (whole [.int .i64 0] 3).xs 0 [.int .i64 x] } = H10 at hP10 hl10 hcx ⊢
  have h10 := h48.trans (hl9.trans hl10); refine vc_region rfl ?_; refine vr 2 ?_; refine vco_hload tbOk rfl rfl rfl (cell_le (rem_le _ _) hcx) ?_; refine vco_call rfl rfl (coef_ok (v := x) (hgl.le termUp ((h04.trans h10).trans (rem_le _ _))) (by have := hgo.len; omega)) ?_; rintro _ _ ⟨e11, rfl⟩; rw [e11]; refine vco_mkfunc (cap := [.pointer (some ⟨gx, 0, none⟩)]) rfl ?_; refine vco_callC (cap := [.pointer (some ⟨gf, 0, none⟩), .pointer (some ⟨gp, 0, none⟩)]) (args := [.int .i64 2, .int .i64 (goal.coef x), .func (.func 85) #[] #[.pointer (some ⟨gx, 0, none⟩)]]) rfl rfl (erow_ok (g := fun f => f.coef x) (cell_le h10 hcf4) (hv.le formUp (h04.trans h10)) ⟨85, [.pointer (some ⟨gx, 0, none⟩)], rfl, fun H9 hl9 f A c hf hlf => part3_ok (cell_le hl9 hcx) hf hlf⟩ hP10 (by omega) hok (fun f h => h.coef_le x) (hgo.coef_le x) (by rw [List.length_map, List.length_take]; omega)) (.inl rfl) ?_; rintro _ H11 ⟨rfl, rv11, xs11, hP11, hl11⟩; refine vco_end ?_; refine vc_keep [2, 3, 4, 8, 9, 26, 27, 28] rfl ?_; refine vc_region rfl ?_; refine vco_add rfl rfl ⟨by omega, by omega⟩ ?_; refine vr 1 ?_; refine vco_end ?_; exact ⟨i + 1, _, _, by omega, sub_auto, by rw [tms hxi]; exact hP11, hl9.trans (hl10.trans hl11), by omega⟩
 ·
  have hb : (ment (fs ++ [goal])).length ≤ i := by simpa using hb
  obtain rfl : i = (ment (fs ++ [goal])).length := by omega
  rw [List.take_length] at hP9; have h10 := h48.trans hl9; refine vc_exit ?_; refine vc_keep [2, 3, 8, 9] rfl ?_; refine vc_sr ?_; refine vr 2 ?_; refine vco_callC (cap := [.pointer (some ⟨gf, 0, none⟩), .pointer (some ⟨gp, 0, none⟩)]) (args := [.int .i64 1, .int .i64 bound, .func (.func 86) #[] #[]]) rfl rfl (erow_ok (g := fun f => f.c) (cell_le h10 hcf4) (hv.le formUp (h04.trans h10)) ⟨86, [], rfl, fun H9 hl9 f A c hf hlf => part4_ok⟩ hP9 (by omega) hok (fun f h => h.const) hb0 (by rw [List.length_map]; omega)) (.inl rfl) ?_; rintro _ H11 ⟨rfl, rv11, xs11, hP11, hl11⟩; have h11 := h10.trans hl11; obtain ⟨M, hfit, hM⟩ := cmb_fit (vs := (ment (fs ++ [goal]))) (b := bound) hok hgo hb0 hfl hvl; obtain ⟨Ar, cr, rfl⟩ := hP11.form; refine vco_k [3, 8] ?_; refine vc_sd .drawB [0, 1, 2, 3, 4, 5, 6, 7, 8, 9, 10] follows (by kernel_rfl) ?_; refine vco_hload_st (vs := [_, _]) tbOk rfl rfl rfl hP11.cells ?_; refine vco_hload tbOk rfl rfl rfl (cell_le (rem_le _ _) (cell_le h11 hcf4)) ?_; refine vr 1 ?_; refine vco_make Tryz.underlying26 el36 rfl rfl rfl (by omega) (by omega) (by omega) (by omega) ?_; intro g13 hg13; have hl13 := Heap.le_ins ⟨madeL [.bool false, .slice none 0 0, .slice none 0 0] ((fs.length : Int).toNat * 3), (fs.length : Int).toNat * 3, 36, true⟩ hg13; refine vco_callM rfl rfl (minK_ok (N := 1) (p := cmbP fs (ment (fs ++ [goal])) goal bound) ⟨_, _, rfl, (hs2.le boolUp ((h11.trans (rem_le _ _)).trans hl13)), hP11.srows.le (rowUp 1) hl13⟩ made_zero (by decide) (cmb_ok goal bound (by omega) (by omega)) (by simp [cmbP]) hfit hM) (fun _ _ h => by first | exact h.le | exact h.1) ?_
  rintro _ H20 ⟨hl20, S, f20, B1, m1, e1, B2, m2, e2, Bx, ex, Bd, ed, Br, er, rfl, hchk, hlast, hval, hsx, hsd, hsr⟩; have h20 : Heap.le H H20 := (((h04.trans h11).trans (rem_le _ _)).trans hl13).trans hl20; refine vr 3 ?_; refine vco_alloc el90 rfl ?_; obtain ⟨ti, hti, htz⟩ := sz90; refine vco_bstore (.inl ⟨rfl, rfl⟩) rfl rfl rfl hti htz rfl rfl rfl ?_; refine vr 1 ?_; refine vco_k [13, 14] ?_; refine vc_seq ?_
  by_cases hst : S.status = 1
  ·
   skip
   refine vc_sr ?_; refine vr 1 ?_; refine vco_cmp false rfl rfl (cne_f rfl) ?_; refine vr 3 ?_; refine vco_cmp false rfl rfl (cne_f hst) ?_; refine vr 1 ?_; refine vco_k [13, 56] ?_; refine vc_cond_f rfl ?_; refine vc_skip ?_; refine vc_keep [13] rfl ?_; refine vc_sr ?_; refine vr 4 ?_; refine vco_k [6, 7] ?_; refine vc_ret ⟨.inr rfl, _, .tmp rfl (.tmp rfl (.nil)), ?_⟩; refine ⟨h20, _, _, _, _, rfl, .inl ⟨rfl, S.x, rfl, ?_, hsx, ?_⟩⟩
   ·
    rcases zero_chk hchk with ⟨_, _, h9⟩ | ⟨h9, _⟩
    · rw [h9]; simp [cmbP]
    · omega
   ·
    rcases zero_chk hchk with ⟨_, h9, _⟩ | ⟨h9, _⟩
    · exact h9
    · omega
  ·
   skip
   refine vc_sr ?_; refine vr 1 ?_; refine vco_cmp false rfl rfl (cne_f rfl) ?_; refine vr 3 ?_; refine vco_cmp true rfl rfl (cne_t hst) ?_; refine vr 1 ?_; refine vco_k [13, 56] ?_; refine vc_cond_t rfl ?_; refine vc_sr ?_; refine vr 2 ?_; refine vco_k [6, 7] ?_; refine vc_ret ⟨.inr rfl, _, .tmp rfl (.tmp rfl (.nil)), ?_⟩; refine ⟨h20, _, _, _, _, rfl, .inr ⟨rfl, rfl, rfl, rfl, fun ⟨x, hx⟩ => ?_⟩⟩
   rcases zero_chk hchk with ⟨h9, _⟩ | ⟨_, h9⟩
   · exact hst h9
   · exact h9 x hx
/-- Few facts, when all is valid. -/
def FewL (fs : List Lin) (g : Lin) : Prop := FactsOk fs → LinOk g → fs.length ≤ 6 ∧ (ment (fs ++ [g])).length ≤ 100
/-- What Implies gives. -/
def ImpP (fs : List Lin) (g : Lin) (H : Heap) (v : Value) (H' : Heap) : Prop := Heap.le H H' ∧ ∃ A k c b e, v = .tuple #[.slice A k c, .bool b, .int .i64 e] ∧
  ((¬ (FactsOk fs ∧ LinOk g) ∧ e = 1 ∧ b = false ∧ A = none ∧ k = 0 ∧ c = 0) ∨
   (FactsOk fs ∧ LinOk g ∧ e = 0 ∧ ((b = true ∧ ∃ x : List Rat, k = x.length ∧ x.length = fs.length ∧ SlV (RatP KX) 3 H' (.slice A k c) x ∧ (Lp.Ent fs g (fn x) ∨ Ref fs (fn x))) ∨ (b = false ∧ A = none ∧ k = 0 ∧ c = 0 ∧ ¬ Imp fs g))))
/-- What Refute gives. -/
def RefP (fs : List Lin) (H : Heap) (v : Value) (H' : Heap) : Prop := Heap.le H H' ∧ ∃ A k c b e, v = .tuple #[.slice A k c, .bool b, .int .i64 e] ∧
  ((¬ FactsOk fs ∧ e = 1 ∧ b = false ∧ A = none ∧ k = 0 ∧ c = 0) ∨
   (FactsOk fs ∧ e = 0 ∧ ((b = true ∧ ∃ x : List Rat, k = x.length ∧ x.length = fs.length ∧ SlV (RatP KX) 3 H' (.slice A k c) x ∧ Ref fs (fn x)) ∨ (b = false ∧ A = none ∧ k = 0 ∧ c = 0 ∧ ¬ ∃ x, Ref fs x))))
theorem ment0 (fs : List Lin) : ment (fs ++ [lin0]) = ment fs := by
  unfold ment allVars; rw [List.flatMap_append]; simp [Lin.vars, lin0]
theorem ment0_len {fs : List Lin} (h : FactsOk fs) : (ment (fs ++ [lin0])).length ≤ 100 := by rw [ment0]; exact h.vars
theorem implies_ok {H : Heap} {v : Value} {fs : List Lin} {goal : Lin} {A0 : Option Addr} {c0 : Nat} (hv : FmV H v fs) (hgl : SlV TermP 2 H (.slice A0 goal.ts.length c0) goal.ts) (hfw : FewL fs goal) :
  Fn Tryz.prog 27 #[v, .agg #[.int .i64 goal.c, .slice A0 goal.ts.length c0]] H (ImpP fs goal H) := by
 obtain ⟨A, c, xs, rfl, hc, hr, hx⟩ := id hv; refine fn_intro (args := [_, _]) Tryz.func27 rfl rfl Tryz.ntmps27 rfl rfl fun w0 => ?_; refine vc_keep [0, 1] rfl ?_; refine vc_sr ?_; refine vco_box rfl rfl ?_; refine vr 3 ?_; refine vco_k [0, 3] ?_; refine vc_seq ?_; refine vc_sr ?_; refine vr 1 ?_; refine vco_call rfl rfl (evalid_ok hv) ?_; rintro _ H1 ⟨hl1, b1, rfl, hb1⟩
 cases b1
 ·
  skip
  refine vr 6 ?_; refine vco_k [0, 3, 16] ?_; refine vc_cond_t rfl ?_; refine vc_sr ?_; refine vr 3 ?_; refine vco_k [4, 5, 6] ?_; refine vc_ret ⟨.inr rfl, _, .tmp rfl (.tmp rfl (.tmp rfl (.nil))), ?_⟩; exact ⟨hl1, _, _, _, _, _, rfl, .inl ⟨fun h => (by have h9 := hb1.2 h.1; cases h9), rfl, rfl, rfl, rfl, rfl⟩⟩
 ·
  skip
  refine vr 3 ?_; refine vco_call rfl rfl (lvalid_ok (hgl.le termUp hl1)) ?_; rintro _ H2 ⟨e2, b2, rfl, hb2⟩; rw [e2]
  cases b2
  ·
   skip
   refine vr 2 ?_; refine vco_k [0, 3, 16] ?_; refine vc_cond_t rfl ?_; refine vc_sr ?_; refine vr 3 ?_; refine vco_k [4, 5, 6] ?_; refine vc_ret ⟨.inr rfl, _, .tmp rfl (.tmp rfl (.tmp rfl (.nil))), ?_⟩; exact ⟨hl1, _, _, _, _, _, rfl, .inl ⟨fun h => (by have h9 := hb2.2 h.2; cases h9), rfl, rfl, rfl, rfl, rfl⟩⟩
  ·
   have hfo := hb1.1 rfl; have hgo := hb2.1 rfl; obtain ⟨hf6, hv100⟩ := hfw hfo hgo; refine vr 2 ?_; refine vco_k [0, 3, 16] ?_; refine vc_cond_f rfl ?_; refine vc_skip ?_; refine vc_keep [0, 3] rfl ?_; refine vc_sr ?_; refine vr 4 ?_; refine vco_call rfl rfl (ecomb_ok (hv.le formUp hl1) (hgl.le termUp hl1) hfo.ok hgo hgo.const hf6 hv100) ?_; rintro _ H3 ⟨hl3, A3, n3, c3, b3, rfl, hb3⟩; have h03 := hl1.trans hl3; refine vr 5 ?_; refine vco_k [0, 7, 8] ?_; refine vc_seq ?_
   rcases hb3 with ⟨rfl, x, rfl, hxl, hxs, hxm⟩ | ⟨rfl, rfl, rfl, rfl, hno⟩
   ·
    skip
    refine vc_sr ?_; refine vr 2 ?_; refine vco_k [0, 7, 8, 26] ?_; refine vc_cond_f rfl ?_; refine vc_skip ?_; refine vc_keep [7, 8] rfl ?_; refine vc_sr ?_; refine vr 5 ?_; refine vco_k [4, 5, 6] ?_; refine vc_ret ⟨.inr rfl, _, .tmp rfl (.tmp rfl (.tmp rfl (.nil))), ?_⟩; exact ⟨h03, _, _, _, _, _, rfl, .inr ⟨hfo, hgo, rfl, .inl ⟨rfl, x, rfl, hxl, hxs, .inl (ent_of_cmb hxm)⟩⟩⟩
   ·
    skip
    refine vc_sr ?_; refine vr 2 ?_; refine vco_k [0, 7, 8, 26] ?_; refine vc_cond_t rfl ?_; refine vc_region rfl ?_; refine vr 1 ?_; refine vco_st tbOk rfl el25 rfl rfl ?_; refine vco_call rfl rfl (ecomb_ok (goal := lin0) (A0 := none) (c0 := 0) (hv.le formUp h03) SlV.nil hfo.ok lin0_ok (by omega) hf6 (ment0_len hfo)) ?_; rintro _ H4 ⟨hl4, A4, n4, c4, b4, rfl, hb4⟩; have h04 := h03.trans hl4; refine vr 5 ?_; refine vco_end ?_; refine vc_keep [7, 8] rfl ?_; refine vc_sr ?_; refine vr 5 ?_; refine vco_k [4, 5, 6] ?_; refine vc_ret ⟨.inr rfl, _, .tmp rfl (.tmp rfl (.tmp rfl (.nil))), ?_⟩
    rcases hb4 with ⟨rfl, x, rfl, hxl, hxs, hxm⟩ | ⟨rfl, rfl, rfl, rfl, hno2⟩
    · exact ⟨h04, _, _, _, _, _, rfl, .inr ⟨hfo, hgo, rfl, .inl ⟨rfl, x, rfl, hxl, hxs, .inr (ref_of_cmb hxm)⟩⟩⟩
    ·
     refine ⟨h04, _, _, _, _, _, rfl, .inr ⟨hfo, hgo, rfl, .inr ⟨rfl, rfl, rfl, rfl, fun h => ?_⟩⟩⟩
     rcases h with ⟨x, h⟩ | ⟨x, h⟩
     · exact hno ⟨x, h.cmb _⟩
     · exact hno2 (h.cmb _)
theorem refute_ok {H : Heap} {v : Value} {fs : List Lin} (hv : FmV H v fs) (hfw : FactsOk fs → fs.length ≤ 6) :
  Fn Tryz.prog 34 #[v] H (RefP fs H) := by
 obtain ⟨A, c, xs, rfl, hc, hr, hx⟩ := id hv; refine fn_intro (args := [_]) Tryz.func34 rfl rfl Tryz.ntmps34 rfl rfl fun w0 => ?_; refine vc_keep [0] rfl ?_; refine vc_sr ?_; refine vr 3 ?_; refine vco_k [0] ?_; refine vc_seq ?_; refine vc_sr ?_; refine vr 1 ?_; refine vco_call rfl rfl (evalid_ok hv) ?_; rintro _ H1 ⟨hl1, b1, rfl, hb1⟩; refine vr 1 ?_; refine vco_k [0, 9] ?_; refine vc_cond rfl (fun hb => ?_) (fun hb => ?_)
 ·
  have hbf : ¬ b1 = true := by simpa using hb
  refine vc_sr ?_; refine vr 3 ?_; refine vco_k [2, 3, 4] ?_; refine vc_ret ⟨.inr rfl, _, .tmp rfl (.tmp rfl (.tmp rfl (.nil))), ?_⟩; exact ⟨hl1, _, _, _, _, _, rfl, .inl ⟨fun h => hbf (hb1.2 h), rfl, rfl, rfl, rfl, rfl⟩⟩
 ·
  have hbt : b1 = true := by simpa using hb
  have hfo := hb1.1 hbt; have hf6 := hfw hfo; refine vc_skip ?_; refine vc_keep [0] rfl ?_; refine vc_sr ?_; refine vr 1 ?_; refine vco_st tbOk rfl el25 rfl rfl ?_; refine vco_call rfl rfl (ecomb_ok (goal := lin0) (A0 := none) (c0 := 0) (hv.le formUp hl1) SlV.nil hfo.ok lin0_ok (by omega) hf6 (ment0_len hfo)) ?_; rintro _ H4 ⟨hl4, A4, n4, c4, b4, rfl, hb4⟩; have h04 := hl1.trans hl4; refine vr 5 ?_; refine vco_k [5, 6] ?_; refine vc_sr ?_; refine vr 5 ?_; refine vco_k [2, 3, 4] ?_; refine vc_ret ⟨.inr rfl, _, .tmp rfl (.tmp rfl (.tmp rfl (.nil))), ?_⟩
  rcases hb4 with ⟨rfl, x, rfl, hxl, hxs, hxm⟩ | ⟨rfl, rfl, rfl, rfl, hno2⟩
  · exact ⟨h04, _, _, _, _, _, rfl, .inr ⟨hfo, rfl, .inl ⟨rfl, x, rfl, hxl, hxs, ref_of_cmb hxm⟩⟩⟩
  · exact ⟨h04, _, _, _, _, _, rfl, .inr ⟨hfo, rfl, .inr ⟨rfl, rfl, rfl, rfl, fun ⟨x, h⟩ => hno2 (h.cmb _)⟩⟩⟩
end Go.Eng
