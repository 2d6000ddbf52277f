/- LexicoCombines: the law's walk. -/
import Derived.Test.YtfjncmjbhfdnpaaGreatA10
import Derived.Test.YtfjncmjbhfdnpaaGreatLw10
import Derived.Test.YtfjncmjbhfdnpaaGreatCmx
set_option linter.unusedVariables false
namespace Go.Eng
open Go.Proofs Num Lp
theorem GroX.setG {α : Type} {gs : List Nat} {H0 H : Heap} {P : Heap → List Value → α → Prop} {e sz : Nat} {v : Value} {l : List α} {xs : List Value} (h : GroX gs H0 P e sz H v l xs) {g : Nat} (hg : g ∈ gs) (en : Ent) : GroX gs (Eng.ins H0 g en) P e sz (Eng.ins H g en) v l xs where
  own := h.own.same fun q hq => ins_other _ _ fun e => h.apart g hg (by rw [← e]; exact blk_mem.2 hq)
  els := by rw [rem_ins_in _ (List.mem_append_left _ hg)]; exact h.els
  base := by rw [rem_ins_in _ hg, rem_ins_in _ (List.mem_append_left _ hg)]; exact h.base
  same := fun q hq => by
    by_cases e : q = g
    · rw [e, ins_same, ins_same]
    · rw [ins_other _ _ e, ins_other _ _ e]; exact h.same q hq
  live := fun q hq => by
    by_cases e : q = g
    · rw [e, ins_same]; simp
    · rw [ins_other _ _ e]; exact h.live q hq
  apart := h.apart
/-- A list of rows, one of which grows. -/
structure Mxd (gm cm : Nat) (H1 H : Heap) (ys : List Value) (w : Value) (l : List Rat) (zs : List Value) : Prop where
  grow : ∃ H0, Heap.le (rem H1 [gm]) (rem H0 [gm]) ∧ GroX [gm] H0 CanP 31 3 H w l zs
  blk : H gm = some ⟨ys.set 1 w, cm * 1, 26, true⟩
section
variable {gm cm : Nat} {H1 H H' : Heap} {ys zs : List Value} {w : Value} {l : List Rat}
theorem Mxd.le (h : Mxd gm cm H1 H ys w l zs) : Heap.le (rem H1 [gm]) (rem H [gm]) := by
  obtain ⟨H0, h1, h2⟩ := h.grow
  exact h1.trans h2.out
theorem Mxd.form (h : Mxd gm cm H1 H ys w l zs) : ∃ A c, w = .slice A l.length c := by
  obtain ⟨H0, h1, h2⟩ := h.grow
  exact h2.form
/-- All rows. -/
theorem Mxd.out {N : Nat} {os : List (List Rat)} (h : Mxd gm cm H1 H ys w l zs) (hy : Els (VecP N (rem H1 [gm])) 1 ys os) (h1 : 1 < os.length) (hc : os.length ≤ cm) (hs : ∀ q, q ∈ l → szQ q ≤ N) : LsV N H (.slice (some ⟨gm, 0, none⟩) os.length cm) (os.set 1 l) := by
  obtain ⟨H0, g1, g2⟩ := h.grow
  obtain ⟨A, c, rfl⟩ := g2.form
  refine ⟨_, _, _, by rw [List.length_set], by rw [List.length_set]; exact hc, rd_at h.blk, ?_⟩
  exact (hy.mono fun vs a => vecUp N _ _ vs a (h.le.trans (rem_le _ _))).set h1 (show VecP N H [_] l from ⟨A, c, rfl, ((g2.sl canUp).can_rat hs).le (ratUp N) (rem_le _ _)⟩) rfl
end
theorem szQ_z {n : Int} (h : -1048576 ≤ n ∧ n ≤ 1048576) : szQ (n : Rat) ≤ 1 := szQ_le.2 (by
  rw [Rat.num_intCast, Rat.den_intCast, Nat.pow_one, B_eq]; omega)
theorem Com.ofs (q : Rat) : Tab.Com q.den q.num.natAbs q := by
  refine ⟨q.num, ?_, Nat.le_refl _⟩
  have hd : (q.den : Rat) ≠ 0 := fun e => q.den_nz (by exact_mod_cast e)
  have e := Rat.mkRat_self q
  rw [Rat.mkRat_eq_div] at e
  grind
theorem mix_wt {x y : Rat} {k : Int} (hx : x.num.natAbs < 2 ^ 63 ∧ x.den < 2 ^ 63) (hy : y.num.natAbs < 2 ^ 63 ∧ y.den < 2 ^ 63) (hk : k.natAbs ≤ 128) : Tab.wt (x + (k : Rat) * y) ≤ 263 := by
  have h1 := com_up y.den (Com.ofs x)
  have h2 : Tab.Com 1 128 (k : Rat) := ⟨k, by simp, hk⟩
  have h3 := com_mul h2 (Com.ofs y)
  rw [Nat.one_mul] at h3
  have h4 := com_up x.den h3
  rw [Nat.mul_comm y.den] at h4
  have h5 := h1.sub h4.neg
  rw [show x - -((k : Rat) * y) = x + (k : Rat) * y by grind] at h5
  have hd : 0 < x.den * y.den := Nat.mul_pos x.den_pos y.den_pos
  have h6 := Tab.com_size hd h5
  have m1 : x.num.natAbs * y.den ≤ 2 ^ 63 * 2 ^ 63 := Nat.mul_le_mul (by omega) (by omega)
  have m2 : 128 * y.num.natAbs * x.den ≤ 128 * 2 ^ 63 * 2 ^ 63 := Nat.mul_le_mul (Nat.mul_le_mul_left _ (by omega)) (by omega)
  have m3 : x.den * y.den ≤ 2 ^ 63 * 2 ^ 63 := Nat.mul_le_mul (by omega) (by omega)
  have l1 : (x + (k : Rat) * y).num.natAbs.log2 ≤ 134 := by
    by_cases h0 : (x + (k : Rat) * y).num.natAbs = 0
    · rw [h0]; decide
    · have := (Nat.log2_lt h0 (k := 135)).2 (by omega)
      omega
  have l2 : (x + (k : Rat) * y).den.log2 ≤ 126 := by
    have := (Nat.log2_lt (Rat.den_nz (x + (k : Rat) * y)) (k := 127)).2 (by omega)
    omega
  unfold Tab.wt; omega
theorem mixO_get {f : Rat} {a b : List Rat} {n : Nat} : ∀ q, q ∈ mixO f a b n → ∃ j, j < n ∧ q = fn b j + f * fn a j := fun q hq => mem_vals hq
theorem mix_fine {p : Prg} {os : List (List Rat)} {l : List Rat} (h : LexFine p os) (hl : l.length = p.free.length) : LexFine p (os.set 1 l) :=
  ⟨h.ok, fun o ho => by
    rcases List.mem_or_eq_of_mem_set ho with h1 | h1
    · exact h.vec o h1
    · rw [h1, hl], by rw [List.length_set]; exact h.lev, by rw [List.length_set]; exact h.rows⟩
theorem mix_sz {H : Heap} {v ov : Value} {p : Prg} {os : List (List Rat)} {a b : List Rat} {k : Int} (h : Kpt H v ov p os) (hf : LexFine p os) (ha : a ∈ os) (hb : b ∈ os) (hk : k.natAbs ≤ 128) : LexSz p (os.set 1 (mixO (k : Rat) a b p.free.length)) 19934208 (2 * Tab.wts (p.rows.map (·.2.2))) := by
  have hn := h.sml.cols
  have h0 := h.obj.two
  refine lexSz_of h.sml.rows (fun r hr => ?_) (by rw [List.length_set]; exact h.len) (fun o ho => ?_) (fun r hr => ?_) (fun o ho q hq => ?_)
  · obtain ⟨i, hi⟩ := List.getElem?_of_mem hr
    have := (hf.ok.row i r hi).1; omega
  · rcases List.mem_or_eq_of_mem_set ho with h1 | h1
    · have := hf.vec o h1; omega
    · rw [h1, mixO, vals_len]; exact hn
  · have h2 := h.sml.prog.two r hr
    exact ⟨fun q hq => by have := wt2 (h2.1 q hq); omega, by have := wt2 h2.2; omega⟩
  · rcases List.mem_or_eq_of_mem_set ho with h1 | h1
    · have := wt2 (h0 o h1 q hq); omega
    · rw [h1] at hq
      obtain ⟨j, hj, rfl⟩ := mixO_get q hq
      have ga := hf.vec a ha
      have gb := hf.vec b hb
      exact mix_wt (h0 b hb _ (fn_mem (by omega))) (h0 a ha _ (fn_mem (by omega))) hk
theorem lexcomb_ok {H : Heap} {v ov : Value} {p : Prg} {os : List (List Rat)} {N : Nat} {z : Int} (hp : ProgV N H v p) (ho : LsV N H ov os) (hz0 : -128 ≤ z) (hz1 : z ≤ 127) (hol : os.length ≤ 9223372036854775807) :
  Fn Tryz.prog 5 #[v, ov, .int .i8 z] H (fun v H' => Heap.le H H' ∧ v = .bool true) := by
 obtain ⟨fv, rv0, rfl, hfv, hrv0⟩ := id hp
 obtain ⟨Af, cf, xf, rfl, hrF, hxF⟩ := hfv.one
 obtain ⟨Ar, cr, xr, rfl, hcr, hrR, hxR⟩ := id hrv0
 obtain ⟨Ao, co, xo, rfl, hco, hro, hxo⟩ := id ho; refine fn_intro (args := [_, _, _]) Tryz.func5 rfl rfl Tryz.ntmps5 rfl rfl fun w0 => ?_; refine vc_keep [0, 1, 2] rfl ?_; refine vc_sr ?_; refine vco_box rfl rfl ?_; refine vr 1 ?_; refine vco_k [1, 2, 3] ?_; refine vc_seq ?_; refine vc_sr ?_; refine vco_call rfl rfl (sane3_ok) ?_; rintro _ H1 ⟨hl1, rfl⟩; refine vr 1 ?_; refine vco_k [1, 2, 3, 17] ?_; refine vc_cond_f rfl ?_; refine vc_skip ?_; refine vc_keep [1, 2, 3] rfl ?_; refine vc_seq ?_; refine vc_sr ?_; refine vr 2 ?_; refine vco_call rfl rfl (solvable3_ok (hp.le hl1) (ho.le (vecUp N) hl1) hol) ?_; rintro _ H2 ⟨e2, b2, rfl, hb2⟩; rw [e2]
 cases b2
 ·
  skip
  refine vr 6 ?_; refine vco_k [1, 2, 3, 26] ?_; refine vc_cond_t rfl ?_; refine vc_sr ?_; refine vr 1 ?_; refine vco_k [6] ?_; refine vc_ret ⟨.inr rfl, _, .tmp rfl (.nil), ?_⟩; exact ⟨hl1, rfl⟩
 ·
  skip
  refine vr 4 ?_
  by_cases h2 : os.length < 2
  ·
   skip
   refine vco_cmp true rfl rfl (clt_t (by omega)) ?_; refine vr 1 ?_; refine vco_k [1, 2, 3, 26] ?_; refine vc_cond_t rfl ?_; refine vc_sr ?_; refine vr 1 ?_; refine vco_k [6] ?_; refine vc_ret ⟨.inr rfl, _, .tmp rfl (.nil), ?_⟩; exact ⟨hl1, rfl⟩
  ·
   obtain ⟨hk, hf⟩ := hb2 rfl; have hz := hk.sz hf; have hol4 := hk.len; have hN2 := hk.obj; obtain ⟨Ao9, co9, xo9, e9, hco9, hro9, hxo9⟩ := id hk.obj
   cases e9
   obtain ⟨a, hao⟩ : ∃ a, os[0]? = some a := ⟨_, List.getElem?_eq_getElem (by omega)⟩; obtain ⟨b, hbo⟩ : ∃ b, os[1]? = some b := ⟨_, List.getElem?_eq_getElem (by omega)⟩; have hal := hf.vec a (List.mem_of_getElem? hao); have hbl := hf.vec b (List.mem_of_getElem? hbo); have hcols := hk.sml.cols; obtain ⟨Aa, ca, hax, hasl⟩ := vec_get hxo9 hao; obtain ⟨Ab, cb, hbx, hbsl⟩ := vec_get hxo9 hbo; obtain ⟨_, _, xa, ea, _, hra, hea⟩ := id hasl
   cases ea
   obtain ⟨_, _, xb, eb, _, hrb, heb⟩ := id hbsl
   cases eb
   refine vco_cmp false rfl rfl (clt_f (by omega)) ?_; refine vr 1 ?_; refine vco_k [1, 2, 3, 26] ?_; refine vc_cond_f rfl ?_; refine vc_skip ?_; refine vc_keep [1, 2, 3] rfl ?_; refine vc_sr ?_; refine vr 1 ?_; refine vco_conv tbOk rfl rfl rfl ⟨by omega, by omega⟩ ?_; refine vco_call rfl rfl ((rFromInt_ok (n := z) (by omega) (by omega)).rc) ?_; rintro _ H2 ⟨hl2, f, rfl, hqf⟩; refine vco_alloc el31 rfl ?_; obtain ⟨ti, hti, htz⟩ := sz31; refine vco_bstore (.inl ⟨rfl, rfl⟩) rfl rfl rfl hti htz rfl rfl rfl ?_; refine vco_k [1, 3, 7] ?_; refine vc_sr ?_; refine vr 1 ?_; refine vco_cpy [] (vecUp 2) (oneVec 2) (by decide) Tryz.underlying40 el26 rfl rfl (fun _ h => by cases h) (by rw [rem_nil]; exact hk.obj.le (vecUp 2) hl2) (by omega) (by omega) ?_; intro V H3 ys hV; obtain ⟨gm, cm, eV, hgm, hcm1, hcm2⟩ := hV.own.slot (by omega)
   cases eV
   have hys : Els (VecP 2 (rem H3 [gm])) 1 ys os := hV.els; have hyl := hys.len
   have hl3 : Heap.le H2 (rem H3 [gm]) := by have := hV.base; rwa [rem_nil] at this
   refine vr 1 ?_; refine vco_k [1, 3, 7, 8] ?_; refine vc_sr ?_; refine vr 1 ?_; obtain ⟨ti, hti, htz⟩ := sz26; refine vco_set (.inl rfl) tbOk rfl rfl rfl (by omega) (by omega) (hgm) rfl (by show 0 + os.length * 1 ≤ ys.length; omega) hti htz (fun _ => rfl) rfl rfl rfl fun _ => ?_; refine vco_k [1, 3, 7, 8] ?_; have hM0 : Mxd gm cm H3 (ins H3 gm ⟨ys.set 1 (.slice none 0 0), cm * 1, 26, true⟩) ys (.slice none 0 0) (vals (fun i => fn b i + (z : Rat) * fn a i) 0) [] := ⟨⟨_, by rw [rem_ins_in _ (List.mem_singleton.2 rfl)]; exact .refl _, groX_nil (fun q hq => by rw [List.mem_singleton.1 hq, ins_same]; simp)⟩, ins_same _ _ _⟩; have hl4 : Heap.le H2 (ins H3 gm ⟨ys.set 1 (.slice none 0 0), cm * 1, 26, true⟩) := hl3.trans (hM0.le.trans (rem_le _ _)); refine vc_seq ?_; refine vc_sr ?_; refine vr 1 ?_; refine vco_at tbOk rfl rfl rfl rfl rfl ((hro9.le hl2).le hl4) (hbx) (by omega) (by omega) fun _ => ?_; refine vr 2 ?_; refine vco_k [1, 3, 7, 8, 37, 38] ?_; refine vc_block ?_; refine vc_loop3 (fun (j : Nat) (w : Value) (zs : List Value) => b.length - j) (fun (j : Nat) (w : Value) (zs : List Value) => put (put (put (put (put (put (emp) 1 (.val (.slice Ao os.length co))) 3 (.box [.slice Af p.free.length cf, .slice Ar p.rows.length cr])) 7 (.box [.bool f.f, .slice f.A1 f.m1 f.c1, .slice f.A2 f.m2 f.c2])) 8 (.val (.slice (some ⟨gm, 0, none⟩) os.length cm))) 37 (.val (.int .i64 (b.length : Int)))) 38 (.val (.int .i64 (j : Int)))) (fun (j : Nat) (w : Value) (zs : List Value) H' => Mxd gm cm H3 H' ys w (vals (fun i => fn b i + (z : Rat) * fn a i) j) zs ∧ j ≤ b.length) 0 (.slice none 0 0) [] (⟨hM0, Nat.zero_le _⟩) sub_auto ?_
   rintro j w zs H5 ⟨hM, hj⟩; obtain ⟨W, cw, ew⟩ := hM.form; rw [vals_len] at ew; subst ew; have hl5 := hl3.trans (hM.le.trans (rem_le _ _)); have hl5m := hl3.trans hM.le; refine vc_sr ?_; refine vr 1 ?_; refine vco_k [1, 3, 7, 8, 37, 38, 39] ?_; refine vc_seq ?_; refine vc_cond rfl (fun hb => ?_) (fun hb => ?_)
   ·
    have hjb : j < b.length := by simpa using hb
    obtain ⟨H0, hH0, hG⟩ := id hM.grow; obtain ⟨f1, B1, k1, d1, B2, k2, d2, _, hrawb, hbq⟩ := SlV.seg3 heb (show b[j]? = some (fn b j) by rw [List.getElem?_eq_getElem hjb, fn_get (List.getElem?_eq_getElem hjb)]); obtain ⟨f2, C1, m1, i1, C2, m2, i2, _, hrawa, haq⟩ := SlV.seg3 hea (show a[j]? = some (fn a j) by rw [List.getElem?_eq_getElem (by omega), fn_get (List.getElem?_eq_getElem (by omega))]); have hzf := szQ_z (n := z) (by omega); have hza := hrawa.size; have hzb := hrawb.size; have hzm := szQ_mul (z : Rat) (fn a j); have hblk := hM.blk; have hgl : ∀ q, q ∈ [gm] ++ blk (.slice W j cw) → H5 q ≠ none := hG.blkne; refine vc_skip ?_; refine vc_keep [1, 3, 7, 8, 37, 38] rfl ?_; refine vc_seq ?_; refine vc_block ?_; refine vc_sr ?_; refine vr 2 ?_; refine vco_k [1, 3, 7, 8, 9, 37, 38] ?_; refine vc_draw .drawH [0, 1, 2, 3, 4, 5, 6, 7, 8, 9, 10, 11, 12, 13, 14, 15, 16, 17, 18, 19, 20, 21, 22] follows (okM [0, 0, 2, 6, 0, 16, 48, 0, 240, 496, 0, 0, 2048, 6144, 0, 30720, 63488, 130048, 262128, 524272, 1048574, 2097151, 4194303] (by kernel_rfl)) ?_; refine vr 2 ?_; refine vco_at tbOk rfl rfl rfl rfl rfl (rd_at hblk) (by show (ys.set 1 _)[1]? = _; exact List.getElem?_set_self (by omega)) (by omega) (by omega) fun _ => ?_; refine vr 1 ?_; refine vco_at tbOk rfl rfl rfl rfl rfl ((hro9.le hl2).le hl5) (hbx) (by omega) (by omega) fun _ => ?_; refine vr 1 ?_; refine vco_at_st (vs := [.bool f1, .slice B1 k1 d1, .slice B2 k2 d2]) tbOk rfl rfl rfl rfl ((hrb.le hl2).le hl5) rfl (by decide) (by rw [Int.toNat_natCast]; exact hbq) (by omega) (by omega) fun _ => ?_
    refine vr 2 ?_; refine vco_at tbOk rfl rfl rfl rfl rfl ((hro9.le hl2).le hl5) (hax) (by omega) (by omega) fun _ => ?_; refine vr 1 ?_; refine vco_at_st (vs := [.bool f2, .slice C1 m1 i1, .slice C2 m2 i2]) tbOk rfl rfl rfl rfl ((hra.le hl2).le hl5) rfl (by decide) (by rw [Int.toNat_natCast]; exact haq) (by omega) (by omega) fun _ => ?_; refine vco_callM rfl rfl (hG.call (rMul_ok (N := 8) ((CanV.raw (hqf.le (hl3.trans (hH0.trans hG.base)))).mono (by omega)) ((hrawa.le (hl2.trans (hl3.trans (hH0.trans hG.base)))).mono (by omega)) (by decide))) (fun _ _ h => h.le fun _ _ h => h.1) ?_; rintro _ H6 hF6; have hG6 := hG.framed canUp hF6 fun _ _ h => h.1; obtain ⟨⟨_, hq6⟩, _⟩ := hF6; refine vco_callM rfl rfl (hG6.call (rAdd_ok (N := 8) ((hrawb.le (hl2.trans (hl3.trans (hH0.trans hG6.base)))).mono (by omega)) ((CanV.raw hq6).mono (by omega)) (by decide))) (fun _ _ h => h.le fun _ _ h => h.1) ?_; rintro _ H7 hF7; have hG7 := hG6.framed canUp hF7 fun _ _ h => h.1; obtain ⟨⟨_, hq7⟩, _⟩ := hF7; obtain ⟨f7, A71, m71, c71, A72, m72, c72, rfl⟩ := hq7.form; refine vco_build Tryz.underlying26 el31 rfl rfl rfl rfl rfl rfl rfl ?_; intro gb hgb; have hG8 := hG7.ins canUp (whole (cellsL [.agg #[.bool f7, .slice A71 m71 c71, .slice A72 m72 c72]]) 31) hgb; refine vco_append Tryz.underlying26 el31 rfl rfl hG8.own (rd_ins _ _ _ _ _ _) rfl (one_rat _ _ _ _ _ _ _) (by rw [vals_len]; omega) (by rw [vals_len]; omega) ?_; intro W9 H9 ha9; have hG9 := hG8.append canUp (j := [fn b j + (z : Rat) * fn a j]) (by simp) ha9 (els_one (canUp _ _ _ _ (rem_mono _ (Heap.le_ins _ hgb)) (show CanP _ [_, _, _] _ from hq7)) rfl)
    rw [← vals_snoc (fun i => fn b i + (z : Rat) * fn a i) j] at hG9; obtain ⟨W9, c9, e9⟩ := hG9.form; rw [vals_len] at e9; subst e9; have hm : gm ∈ [gm] := List.mem_singleton.2 rfl; have hgm9 := ((hG9.same gm hm).trans (hG.same gm hm).symm).trans hblk; have hset := hG9.setG hm ⟨ys.set 1 (.slice W9 (j + 1) c9), cm * 1, 26, true⟩; have hM8 : Mxd gm cm H3 _ ys (.slice W9 (j + 1) c9) _ _ := ⟨⟨_, by rw [rem_ins_in _ hm]; exact hH0, hset⟩, ins_same _ _ _⟩
    have es : ∀ o, ({ (⟨ys.set 1 (.slice W j cw), cm * 1, 26, true⟩ : Ent) with xs := splice (ys.set 1 (.slice W j cw)) (0 + (1 : Int).toNat * 1) [o] } : Ent) = ⟨ys.set 1 o, cm * 1, 26, true⟩ := fun o => by
     show (⟨(ys.set 1 _).set 1 o, _, _, _⟩ : Ent) = _
     rw [List.set_set]
    rw [← es] at hM8; obtain ⟨ti, hti, htz⟩ := sz26; refine vco_set (.inr rfl) tbOk rfl rfl rfl (by omega) (by omega) (hgm9) rfl (by show 0 + os.length * 1 ≤ (ys.set 1 _).length; rw [List.length_set]; omega) hti htz (fun _ => rfl) rfl rfl rfl fun _ => ?_; refine vco_end ?_; refine vc_keep [1, 3, 7, 8, 37, 38] rfl ?_; refine vc_region rfl ?_; refine vco_add rfl rfl ⟨by omega, by omega⟩ ?_; refine vr 1 ?_; refine vco_end ?_; exact ⟨j + 1, _, _, by omega, sub_auto, hM8, by omega⟩
   ·
    have hjb : b.length ≤ j := by simpa using hb
    obtain rfl : j = b.length := by omega
    have hmx : vals (fun i => fn b i + (z : Rat) * fn a i) b.length = mixO (z : Rat) a b p.free.length := by rw [hbl]; rfl
    rw [hmx] at hM
    have hls := hM.out (N := 12) (hys.mono fun _ _ h => VecP.mono h (by decide)) (by omega) hcm1 (fun q hq => by
     obtain ⟨k, hk9, rfl⟩ := mixO_get q hq; have g1 := hasl.rsize _ (fn_mem (l := a) (j := k) (by omega)); have g2 := hbsl.rsize _ (fn_mem (l := b) (j := k) (by omega)); have g3 := szQ_mul (z : Rat) (fn a k); have g4 := szQ_add (fn b k) ((z : Rat) * fn a k); have g5 := szQ_z (n := z) (by omega)
     omega)
    have h25 := hl2.trans hl5; refine vc_exit ?_; refine vc_keep [1, 3, 7, 8] rfl ?_; refine vc_sr ?_; refine vr 2 ?_; refine vco_call rfl rfl (lexQ_ok (N := 2) (hk.sml.prog.le h25) (hN2.le (vecUp 2) h25) (by decide) hf hz) ?_; rintro _ H6 ⟨hl6, S, A61, c61, A62, c62, A63, c63, A64, c64, rfl, hchk6, hv61, hv62, hv63, hv64⟩; refine vr 3 ?_; refine vco_alloc el43 rfl ?_; obtain ⟨ti, hti, htz⟩ := sz43; refine vco_bstore (.inl ⟨rfl, rfl⟩) rfl rfl rfl hti htz rfl rfl rfl ?_; refine vr 1 ?_; refine vco_k [3, 7, 8, 10, 11] ?_; refine vc_sr ?_; refine vr 2 ?_; refine vco_call rfl rfl (lexQ_ok (N := 12) ((hk.sml.prog.le (h25.trans hl6)).mono (by decide)) (hls.le (vecUp 12) hl6) (by decide) (mix_fine hf (by rw [mixO, vals_len])) (mix_sz hk hf (List.mem_of_getElem? hao) (List.mem_of_getElem? hbo) (by omega))) ?_; rintro _ H7 ⟨hl7, T, A71, c71, A72, c72, A73, c73, A74, c74, rfl, hchk7, hv71, hv72, hv73, hv74⟩; have hw0 : 1 < S.values.length → fn S.values 1 + (z : Rat) * fn S.values 0 = fn S.values 1 + (z : Rat) * fn S.values 0 := fun _ => rfl; obtain ⟨est, evs⟩ := lex_unique hchk7.sem (lex_mix hao hbo hw0 hchk6.sem)
    have evl : T.values.length = S.values.length := by rw [evs, List.length_set]
    have h07 := hl1.trans (h25.trans (hl6.trans hl7))
    have hsv : S.values.length ≤ 4 := by
     rcases hchk6.sem with ⟨_, h9, _⟩ | ⟨_, h9, _⟩ | ⟨_, h9, _⟩
     · omega
     · rw [h9]; simp
     · have := h9.1; omega
    refine vr 3 ?_; refine vco_alloc el43 rfl ?_; obtain ⟨ti, hti, htz⟩ := sz43; refine vco_bstore (.inl ⟨rfl, rfl⟩) rfl rfl rfl hti htz rfl rfl rfl ?_; refine vr 1 ?_; refine vco_k [7, 10, 11, 12, 13] ?_; refine vc_seq ?_; refine vc_sr ?_; refine vr 11 ?_; refine vco_cmp false rfl rfl (cne_f est.symm) ?_; refine vr 8 ?_; refine vco_cmp false rfl rfl (cne_f (by omega)) ?_; refine vr 1 ?_; refine vco_k [7, 10, 12, 97] ?_; refine vc_cond_f rfl ?_; refine vc_skip ?_; refine vc_keep [7, 10, 12] rfl ?_; refine vc_seq ?_; refine vc_sr ?_; refine vr 4 ?_; refine vco_k [7, 10, 12, 100, 101] ?_; refine vc_block ?_; refine vc_loop1 (fun (i : Nat) => S.values.length - i) (fun (i : Nat) => put (put (put (put (put (emp) 7 (.box [.bool f.f, .slice f.A1 f.m1 f.c1, .slice f.A2 f.m2 f.c2])) 10 (.box [.int .i64 S.status, .slice A61 S.values.length c61, .slice A62 S.x.length c62, .slice A63 S.duals.length c63, .slice A64 S.ray.length c64])) 12 (.box [.int .i64 T.status, .slice A71 T.values.length c71, .slice A72 T.x.length c72, .slice A73 T.duals.length c73, .slice A74 T.ray.length c74])) 100 (.val (.int .i64 (S.values.length : Int)))) 101 (.val (.int .i64 (i : Int)))) (fun (i : Nat) H' => Heap.le H7 H') 0 (.refl _) sub_auto ?_; rintro i H8 hl8; refine vc_sr ?_; refine vr 1 ?_; refine vco_k [7, 10, 12, 100, 101, 102] ?_; refine vc_seq ?_; refine vc_cond rfl (fun hb => ?_) (fun hb => ?_)
    ·
     have hil : i < S.values.length := by simpa using hb
     have hv6 := (hv61.le (ratUp KX) hl7).le (ratUp KX) hl8; have hv7 := hv71.le (ratUp KX) hl8; obtain ⟨_, _, x6, e6, _, hr6, he6⟩ := id hv6
     cases e6
     obtain ⟨_, _, x7, e7, _, hr7, he7⟩ := id hv7
     cases e7
     have hK : KX = 200000000 := rfl; have hqf8 := ((hqf.le hl5).le hl6).le (hl7.trans hl8); obtain ⟨f1, B1, k1, d1, B2, k2, d2, _, hraw6, hq6⟩ := SlV.seg3 he6 (show S.values[i]? = some (fn S.values i) by rw [List.getElem?_eq_getElem hil, fn_get (List.getElem?_eq_getElem hil)]); obtain ⟨f2, C1, m1, i1, C2, m2, i2, _, hraw7, hq7⟩ := SlV.seg3 he7 (show T.values[i]? = some (fn T.values i) by rw [List.getElem?_eq_getElem (by omega), fn_get (List.getElem?_eq_getElem (by omega))]); have hzf := szQ_z (n := z) (by omega); refine vc_skip ?_; refine vc_keep [7, 10, 12, 100, 101] rfl ?_; refine vc_seq ?_; refine vc_block ?_; refine vc_sr ?_; refine vr 2 ?_; refine vco_k [7, 10, 12, 14, 100, 101] ?_; refine vc_sr ?_; refine vr 3 ?_; refine vco_at_st (vs := [.bool f1, .slice B1 k1 d1, .slice B2 k2 d2]) tbOk rfl rfl rfl rfl (hr6) rfl (by decide) (by rw [Int.toNat_natCast]; exact hq6) (by omega) (by omega) fun _ => ?_; refine vco_alloc el31 rfl ?_; obtain ⟨ti, hti, htz⟩ := sz31; refine vco_bstore (.inl ⟨rfl, rfl⟩) rfl rfl rfl hti htz rfl rfl rfl ?_; refine vco_k [7, 10, 12, 14, 15, 100, 101] ?_; refine vc_cut1 (fun (t : RC) => put (put (put (put (put (put (put (emp) 7 (.box [.bool f.f, .slice f.A1 f.m1 f.c1, .slice f.A2 f.m2 f.c2])) 10 (.box [.int .i64 S.status, .slice A61 S.values.length c61, .slice A62 S.x.length c62, .slice A63 S.duals.length c63, .slice A64 S.ray.length c64])) 12 (.box [.int .i64 T.status, .slice A71 T.values.length c71, .slice A72 T.x.length c72, .slice A73 T.duals.length c73, .slice A74 T.ray.length c74])) 14 (.val (.int .i64 (i : Int)))) 15 (.box [.bool t.f, .slice t.A1 t.m1 t.c1, .slice t.A2 t.m2 t.c2])) 100 (.val (.int .i64 (S.values.length : Int)))) 101 (.val (.int .i64 (i : Int)))) (fun (t : RC) H' => Heap.le H8 H' ∧ RawV H' t.v (fn T.values i) (2 * KX + 20)) ?_ ?_
     ·
      refine vc_sr ?_; refine vr 2 ?_; refine vco_k [7, 10, 12, 14, 15, 100, 101, 110] ?_; refine vc_cond rfl (fun hb => ?_) (fun hb => ?_)
      ·
       have hi1 : i = 1 := by simp at hb; omega
       subst hi1; obtain ⟨f3, D1, n1, j1, D2, n2, j2, _, hraw0, hq0⟩ := SlV.seg3 he6 (show S.values[0]? = some (fn S.values 0) by rw [List.getElem?_eq_getElem (by omega), fn_get (List.getElem?_eq_getElem (by omega))]); refine vc_draw .drawB [0, 1, 2, 3, 4, 5, 6, 7, 8] follows (by kernel_rfl) ?_; refine vr 4 ?_; refine vco_at_st (vs := [.bool f3, .slice D1 n1 j1, .slice D2 n2 j2]) tbOk rfl rfl rfl rfl (hr6) rfl (by decide) (hq0) (by omega) (by omega) fun _ => ?_; refine vco_callM rfl rfl (rMul_ok (N := KX) ((CanV.raw hqf8).mono (by omega)) hraw0 (by decide)) (fun _ _ h => by first | exact h.le | exact h.1) ?_; rintro _ H9 ⟨hl9, hq9⟩; obtain ⟨f9, A91, m91, c91, A92, m92, c92, rfl⟩ := hq9.form; have hzm := szQ_mul (z : Rat) (fn S.values 0); have hz00 := hraw0.size; refine vco_callM rfl rfl (rAdd_ok (N := 2 * KX) ((hraw6.le hl9).mono (by omega)) ((CanV.raw hq9).mono (by omega)) (by decide)) (fun _ _ h => by first | exact h.le | exact h.1) ?_; rintro _ H10 ⟨hl10, hq10⟩; obtain ⟨t10, rfl⟩ := hq10.rc; have hza := szQ_add (fn S.values 1) ((z : Rat) * fn S.values 0); have hz66 := hraw6.size; obtain ⟨ti, hti, htz⟩ := sz31; refine vco_bstore (.inl ⟨rfl, rfl⟩) rfl rfl rfl hti htz rfl rfl rfl ?_; refine vco_end ?_; refine ⟨t10, sub_auto, hl9.trans hl10, ?_⟩; rw [show fn T.values 1 = fn S.values 1 + (z : Rat) * fn S.values 0 by rw [evs]; exact fn_get (List.getElem?_set_self hil)]; exact (CanV.raw hq10).mono (by omega)
      ·
       have hi1 : i ≠ 1 := by simp at hb; omega
       refine vc_skip ?_; refine ⟨⟨f1, B1, k1, d1, B2, k2, d2⟩, sub_auto, .refl _, ?_⟩; rw [show fn T.values i = fn S.values i by rw [evs]; show ((S.values.set 1 _)[i]?).getD 0 = (S.values[i]?).getD 0; rw [List.getElem?_set_ne (fun e => hi1 e.symm)]]; exact hraw6.mono (by omega)
     ·
      rintro t H9 ⟨hl9, ht9⟩; refine vc_sd .drawB [0, 1, 2, 3, 4, 5, 6, 7] follows (by kernel_rfl) ?_; refine vr 4 ?_; refine vco_at_st (vs := [.bool f2, .slice C1 m1 i1, .slice C2 m2 i2]) tbOk rfl rfl rfl rfl (hr7.le hl9) rfl (by decide) (by rw [Int.toNat_natCast]; exact hq7) (by omega) (by omega) fun _ => ?_; refine vco_callM rfl rfl (rCmp_ok (N := 2 * KX + 20) ht9 ((hraw7.le hl9).mono (by omega)) (by decide)) (fun _ _ h => by first | exact h.le | exact h.1) ?_; rintro _ H10 ⟨hl10, rfl⟩; rw [cmpQ_self]; refine vco_cmp false rfl rfl (cne_f rfl) ?_; refine vco_k [7, 10, 12, 100, 101, 126] ?_; refine vc_cond_f rfl ?_; refine vc_skip ?_; refine vc_keep [7, 10, 12, 100, 101] rfl ?_; refine vc_region rfl ?_; refine vco_add rfl rfl ⟨by omega, by omega⟩ ?_; refine vr 1 ?_; refine vco_end ?_; exact ⟨i + 1, by omega, sub_auto, hl8.trans (hl9.trans hl10)⟩
    ·
     skip
     refine vc_exit ?_; refine vc_keep [] rfl ?_; refine vc_sr ?_; refine vr 1 ?_; refine vco_k [6] ?_; refine vc_ret ⟨.inr rfl, _, .tmp rfl (.nil), ?_⟩; exact ⟨h07.trans hl8, rfl⟩
end Go.Eng
