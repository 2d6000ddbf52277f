/- Walks over package lexico, part 5: Least. -/
import Derived.Test.YtfjncmjbhfdnpaaGreatA10
import Derived.Test.YtfjncmjbhfdnpaaGreatLx4
set_option linter.unusedVariables false
namespace Go.Eng
open Go.Proofs Num Lp
/-- The objective of the first column. -/
def unit0 (k : Nat) : List Rat := (List.replicate k 0).set 0 1
theorem unit0_len (k : Nat) : (unit0 k).length = k := by simp [unit0]
theorem unit0_fn {k : Nat} (hk : 0 < k) (j : Nat) : fn (unit0 k) j = if j = 0 then 1 else 0 := by
  unfold fn unit0
  rw [List.getD, List.getElem?_set]
  by_cases h : 0 = j
  · subst h; simp [hk]
  · rw [if_neg h, if_neg (fun e => h e.symm), List.getElem?_replicate]; split <;> rfl
theorem unit0_dot {k : Nat} (hk : 0 < k) (z : Nat → Rat) : dotN k (fn (unit0 k)) z = z 0 := by
  unfold dotN
  rw [sumN_single hk _ (fun j _ hj => by rw [unit0_fn hk, if_neg hj]; grind), unit0_fn hk, if_pos rfl]; grind
/-- The numbers while columns are fixed have at most so many bits. -/
structure LstSz (p : Prg) (l : List Rat) (E f0 : Nat) : Prop where
  inn : In l p
  one : 1 ∈ l
  zero : 0 ∈ l
  bin : ∃ D, BIn D f0 p
  bit : bitE l p.rows.length p.rows.length ≤ E
  tot : f0 + (p.free.length + 1) * (E + 2 * Tab.wts l + 1) ≤ 99999998
/-- What Least gives. -/
def LeastP (p : Prg) (H : Heap) (v : Value) (H' : Heap) : Prop := Heap.le H H' ∧ ∃ A k c e, v = .tuple #[.slice A k c, .int .i64 e] ∧
  ((¬ p.Ok ∧ e = 1 ∧ A = none ∧ k = 0 ∧ c = 0) ∨ (p.Ok ∧ (∃ j : Nat, p.free[j]? = some true) ∧ e = 7 ∧ A = none ∧ k = 0 ∧ c = 0) ∨ (p.Ok ∧ (¬ ∃ j : Nat, p.free[j]? = some true) ∧ p.lp.IsInf ∧ e = 17 ∧ A = none ∧ k = 0 ∧ c = 0) ∨
   (p.Ok ∧ (¬ ∃ j : Nat, p.free[j]? = some true) ∧ e = 0 ∧ ∃ y, LexMin p y ∧ SlV (RatP KX) 3 H' (.slice A k c) y))
structure S7 where
  a : Value
  b : Value
  c : Value
  d : Value
  e : Value
  f : Value
  g : Value
/-- What holds while columns are fixed. -/
structure LstI (p : Prg) (l : List Rat) (E f0 : Nat) (H H' : Heap) (w : Value × Value × Value × Value) (ys : List Value) (a : Prg × List Rat × List Rat) : Prop where
  gro : Gro CanP 31 3 H H' w.1 a.2.1 ys
  prog : ProgV KX (rem H' (blk w.1)) (.agg #[w.2.1, w.2.2.1]) a.1
  rest : SlV (RatP KX) 3 (rem H' (blk w.1)) w.2.2.2 a.2.2
  ok : a.1.Ok
  free : ¬ ∃ j : Nat, a.1.free[j]? = some true
  meets : a.1.lp.Meets 1 (fn a.2.2)
  len : a.2.2.length = a.1.free.length
  chain : ∀ y, LexMin a.1 y → LexMin p (a.2.1 ++ y)
  cnt : a.2.1.length + a.1.free.length = p.free.length
  rows : a.1.rows.length = p.rows.length
  inn : In l a.1
  bin : ∃ D, BIn D (f0 + a.2.1.length * (E + 2 * Tab.wts l + 1)) a.1
  sz : ∀ q, q ∈ a.2.1 → szQ q ≤ KX
theorem free0 {p : Prg} (h : ¬ ∃ j : Nat, p.free[j]? = some true) (j : Nat) : p.lp.free j = false := by
  show p.free.getD j false = false
  rw [List.getD]
  cases hj : p.free[j]? with
  | none => rfl
  | some b =>
    cases b with
    | false => rfl
    | true => exact absurd ⟨j, hj⟩ h
theorem fix_free {p : Prg} {v : Rat} (h : ¬ ∃ j : Nat, p.free[j]? = some true) : ¬ ∃ j : Nat, (fixP p v).free[j]? = some true := fun ⟨j, hj⟩ => by
  have hj : (p.free.drop 1)[j]? = some true := hj
  rw [List.getElem?_drop] at hj
  exact h ⟨_, hj⟩
/-- The first column's value at the vector is least, and not great. -/
structure LstV (D E f : Nat) (q : Prg) (x : List Rat) : Prop where
  meets : q.lp.Meets 1 (fn x)
  len : x.length = q.free.length
  min : ∀ z, q.lp.Meets 1 z → fn x 0 ≤ z 0
  com : ∃ D1, 0 < D1 ∧ D1 ≤ 2 ^ E ∧ Tab.Com (D1 * D) (2 ^ (E + f)) (fn x 0)
theorem lstV_zero {D E f : Nat} {q : Prg} {x : List Rat} (hn : 0 < q.free.length) (hf : ¬ ∃ j : Nat, q.free[j]? = some true) (h : q.lp.Meets 1 (fn x)) (hl : x.length = q.free.length) (h0 : fn x 0 = 0) : LstV D E f q x :=
  ⟨h, hl, fun z hz => by rw [h0]; exact hz.1 0 hn (free0 hf 0), 1, by omega, Nat.one_le_two_pow, by rw [h0]; exact Tab.com_zero _ _⟩
theorem lstV_min {D E f k : Nat} {q : Prg} {l : List Rat} {S : Soln} (hn : 0 < q.free.length) (hl : In l q) (h1 : 1 ∈ l) (h0 : 0 ∈ l) (hb : BIn D f q) (hk : Cin q k) (hE : bitE l k q.lp.m ≤ E) (hc : Chk q (unit0 q.free.length) S) (hs : S.status = 1) (hL : Last q (unit0 q.free.length) S) : LstV D E f q S.x := by
  obtain ⟨_, k2, k3⟩ := hc.at1 hs
  have hopt := k2.cert.isOpt k2.feas.ok.valid
  refine ⟨k2.feas.meets, k2.feas.len, fun z hz => ?_, ?_⟩
  · have h9 := hopt.2 z hz
    have e1 : dotN q.lp.n (fn (unit0 q.free.length)) z = z 0 := unit0_dot hn z
    have e2 : dotN q.lp.n (fn (unit0 q.free.length)) (fn S.x) = fn S.x 0 := unit0_dot hn _
    rwa [e1, e2] at h9
  · obtain ⟨T, hT, _, e2⟩ := hL hs
    obtain ⟨D1, g1, g2, _, g4⟩ := val_com hl (fun j _ => by rw [unit0_fn hn]; split; exact h1; exact h0) hb hk hT
    refine ⟨D1, g1, Nat.le_trans g2 (Nat.pow_le_pow_right (by decide) hE), ?_⟩
    have hx : fn S.x 0 ∈ S.x := fn_mem (by rw [k2.feas.len]; exact hn)
    rw [e2] at hx
    have h9 := (g4 _ hx).mono (Nat.pow_le_pow_right (n := 2) (by decide) (show bitE l k q.lp.m + f ≤ E + f by omega))
    rwa [← e2] at h9
theorem lst_status {q : Prg} {S : Soln} {x : Nat → Rat} (hn : 0 < q.free.length) (hf : ¬ ∃ j : Nat, q.free[j]? = some true) (hx : q.lp.Meets 1 x) (hc : Chk q (unit0 q.free.length) S) : S.status = 1 := by
  rcases hc.sem with ⟨h, _⟩ | ⟨_, h, _⟩ | ⟨_, h, _⟩
  · exact h
  · exact absurd hx (h x)
  · obtain ⟨z, hz, hlt⟩ := h.2 0
    have e1 : dotN q.lp.n (fn (unit0 q.free.length)) z = z 0 := unit0_dot hn z
    rw [e1] at hlt
    have := hz.1 0 hn (free0 hf 0)
    grind
theorem com_sz {D f : Nat} {q : Rat} (h1 : 0 < D) (h2 : D ≤ 2 ^ f) (h : Tab.Com D (2 ^ f) q) : szQ q ≤ f + 1 := com_szQ h1 h h2 (Nat.le_refl _)
theorem least_ok {H : Heap} {v : Value} {p : Prg} {l : List Rat} {N E f0 : Nat} (hp : ProgV N H v p) (hN : N ≤ KX) (hsz : p.Ok → LstSz p l E f0) :
    Fn Tryz.prog 24 #[v] H (LeastP p H) := by
  obtain ⟨fv, rv0, rfl, hfv, hrv0⟩ := id hp
  obtain ⟨Af, cf, xf, rfl, hrF, hxF⟩ := hfv.one
  obtain ⟨Ar, cr, xr, rfl, hcr, hrR, hxR⟩ := id hrv0
  have hNK : N ≤ 200000000 := hN; refine fn_intro (args := [_]) Tryz.func24 rfl rfl Tryz.ntmps24 rfl rfl fun w0 => ?_; refine vc_keep [0] rfl ?_; refine vc_sr ?_; refine vco_box rfl rfl ?_; refine vr 2 ?_; refine vco_k [1] ?_; refine vc_seq ?_; refine vc_sr ?_; refine vr 1 ?_; refine vco_call rfl rfl (Valid_ok hp) ?_; rintro _ H1 ⟨e1, b1, rfl, hb1⟩; rw [e1]; refine vr 1 ?_; refine vco_k [1, 11] ?_; refine vc_cond rfl (fun hb => ?_) (fun hb => ?_)
  ·
    have hbf : b1 = false := by simpa using hb
    subst hbf; refine vc_sr ?_; refine vr 2 ?_; refine vco_k [2, 3] ?_; refine vc_ret ⟨.inr rfl, _, .tmp rfl (.tmp rfl (.nil)), ?_⟩; exact ⟨.refl _, _, _, _, _, rfl, .inl ⟨fun h => (by have h9 := hb1.2 h; cases h9), rfl, rfl, rfl, rfl⟩⟩
  ·
    have hbt : b1 = true := by simpa using hb
    have hok := hb1.1 hbt; have hn4 := hok.cols; have hm8 := hok.rows; have hz := hsz hok; have htot := hz.tot; have hbit := hz.bit; refine vc_skip ?_; refine vc_keep [1] rfl ?_; refine vc_seq ?_; refine vc_sr ?_; refine vr 2 ?_; refine vco_call rfl rfl (contains_ok hfv (by omega)) ?_; rintro _ H2 ⟨e2, b2, rfl, hb2⟩; rw [e2]; refine vco_k [1, 14] ?_; refine vc_cond rfl (fun hb => ?_) (fun hb => ?_)
    ·
      have hbt2 : b2 = true := by simpa using hb
      refine vc_sr ?_; refine vr 2 ?_; refine vco_k [2, 3] ?_; refine vc_ret ⟨.inr rfl, _, .tmp rfl (.tmp rfl (.nil)), ?_⟩; exact ⟨.refl _, _, _, _, _, rfl, .inr (.inl ⟨hok, hb2.1 hbt2, rfl, rfl, rfl, rfl⟩)⟩
    ·
      have hbf2 : b2 = false := by simpa using hb
      have hfr : ¬ ∃ j : Nat, p.free[j]? = some true := fun h => by have h9 := hb2.2 h; rw [hbf2] at h9; cases h9
      obtain ⟨D0, hD0⟩ := hz.bin; have hfit : Fits p (List.replicate p.free.length 0) (bits l p.rows.length p.lp.m f0) := fit_of hz.inn (fun j _ => by rw [fn_rep]; exact hz.zero) hD0 (.inl (Nat.le_refl _)); have hEE : 1 * (E + 2 * Tab.wts l + 1) ≤ (p.free.length + 1) * (E + 2 * Tab.wts l + 1) := Nat.mul_le_mul_right _ (by omega)
      have hMb : bits l p.rows.length p.lp.m f0 ≤ 99999998 := by
        have h9 : bitE l p.rows.length p.lp.m ≤ E := hbit
        unfold bits; omega
      refine vc_skip ?_; refine vc_keep [1] rfl ?_; refine vc_sd .drawB [0, 1, 2, 3, 4, 5, 6, 7, 8, 9, 10, 11] follows (by kernel_rfl) ?_; refine vr 4 ?_; refine vco_make Tryz.underlying26 el31 rfl rfl rfl (by omega) (by omega) (by omega) (by omega) ?_; intro g hg; have hle := Heap.le_ins ⟨madeL [.bool false, .slice none 0 0, .slice none 0 0] ((p.free.length : Int).toNat * 3), (p.free.length : Int).toNat * 3, 31, true⟩ hg; refine vco_callM rfl rfl (minK_ok (N := N) (hp.le hle) made_zero (by omega) hok (by rw [List.length_replicate]) hfit hMb) (fun _ _ h => by first | exact h.le | exact h.1) ?_; rintro _ H3 ⟨hl3, S, f3, B31, m31, e31, B32, m32, e32, B3x, e3x, B3d, e3d, B3r, e3r, rfl, hchk, hlast, hval, hsx, hsd, hsr⟩; have h03 := hle.trans hl3; refine vr 3 ?_; refine vco_alloc el33 rfl ?_; obtain ⟨ti, hti, htz⟩ := sz33; refine vco_bstore (.inl ⟨rfl, rfl⟩) rfl rfl rfl hti htz rfl rfl rfl ?_; refine vr 1 ?_; refine vco_k [1, 4, 5] ?_; refine vc_seq ?_; refine vc_sr ?_; refine vr 2 ?_; refine vco_k [1, 4, 5, 25] ?_; refine vc_cond_f rfl ?_; refine vc_skip ?_; refine vc_keep [1, 4] rfl ?_; refine vc_seq ?_; refine vc_sr ?_; refine vr 3 ?_; refine vco_k [1, 4, 29] ?_; refine vc_cond rfl (fun hb => ?_) (fun hb => ?_)
      ·
        have h1 : ¬ S.status = 1 := by simpa using hb
        have hinf : p.lp.IsInf := by
          rcases hchk.sem with ⟨h9, _⟩ | ⟨_, h9, _⟩ | ⟨_, h9, _⟩
          · exact absurd h9 h1
          · exact h9
          · obtain ⟨z9, _, hlt⟩ := h9.2 0
            have e9 : dotN p.lp.n (fn (List.replicate p.free.length 0)) z9 = 0 := sumN_eq0 fun j _ => by rw [fn_rep]; grind
            rw [e9] at hlt; exact absurd hlt (by decide)
        refine vc_sr ?_; refine vr 2 ?_; refine vco_k [2, 3] ?_; refine vc_ret ⟨.inr rfl, _, .tmp rfl (.tmp rfl (.nil)), ?_⟩; exact ⟨h03, _, _, _, _, rfl, .inr (.inr (.inl ⟨hok, hfr, hinf, rfl, rfl, rfl, rfl⟩))⟩
      ·
        have h1 : S.status = 1 := by simpa using hb
        obtain ⟨k1, k2, k3⟩ := hchk.at1 h1; refine vc_skip ?_; refine vc_keep [1, 4] rfl ?_; refine vc_sr ?_; refine vr 1 ?_; refine vco_k [1, 4, 6] ?_; refine vc_sr ?_; refine vr 3 ?_; refine vco_k [1, 4, 6, 7] ?_; refine vc_seq ?_; refine vc_block ?_; refine vc_loop4 (fun (w : Value × Value × Value × Value) (ys : List Value) (z : S7) (aa : Prg × List Rat × List Rat) => aa.2.2.length) (fun (w : Value × Value × Value × Value) (ys : List Value) (z : S7) (aa : Prg × List Rat × List Rat) => put (put (put (put (emp) 1 (.box [w.2.1, w.2.2.1])) 4 (.box [z.a, z.b, z.c, z.d, z.e, z.f, z.g])) 6 (.val (w.1))) 7 (.val (w.2.2.2))) (fun (w : Value × Value × Value × Value) (ys : List Value) (z : S7) (aa : Prg × List Rat × List Rat) H' => LstI p l E f0 H H' w ys aa) (.slice none 0 0, .slice Af p.free.length cf, .slice Ar p.rows.length cr, .slice B3x S.x.length e3x) [] ⟨.int .i64 S.status, .bool f3, .slice B31 m31 e31, .slice B32 m32 e32, .slice B3x S.x.length e3x, .slice B3d S.dual.length e3d, .slice B3r S.ray.length e3r⟩ (p, [], S.x) (⟨(gro_nil H3).down h03, by rw [blk_nil, rem_nil]; exact (hp.mono hN).le h03, by rw [blk_nil, rem_nil]; exact hsx, hok, hfr, k2.feas.meets, k2.feas.len, fun y h => h, Nat.zero_add _, rfl, hz.inn, ⟨D0, by rw [List.length_nil, Nat.zero_mul]; exact hD0⟩, (fun q h => by cases h)⟩) sub_auto ?_; rintro w ys z aa H4 hI; obtain ⟨w1, wf, wr, wx⟩ := w; obtain ⟨q, a, x⟩ := aa; have hG := hI.gro; have hP := hI.prog; have hR := hI.rest; have hqok := hI.ok
        have hqf := hI.free; have hqm := hI.meets; have hql := hI.len; have hqc := hI.cnt; have hqr := hI.rows
        simp only at hG hP hR hqok hqf hqm hql hqc hqr
        obtain ⟨W, cw, rfl⟩ := hG.form; obtain ⟨Qf, qf, Qr, qr, eQ⟩ := hP.forms
        simp only [Value.agg.injEq, Array.mk.injEq, List.cons.injEq, and_true] at eQ
        obtain ⟨rfl, rfl⟩ := eQ; obtain ⟨Rx, rx, xx, rfl, hrx, hrr, hrl⟩ := id hR; refine vc_seq ?_; refine vc_sr ?_; refine vr 3 ?_; refine vco_k [1, 4, 6, 7, 34] ?_; refine vc_cond rfl (fun hb => ?_) (fun hb => ?_)
        ·
          have hx0i : (0 : Int) < (x.length : Int) := by simpa using hb
          have hx0 : 0 < x.length := by omega
          obtain ⟨u, huk⟩ : ∃ u, x[0]? = some u := ⟨_, List.getElem?_eq_getElem hx0⟩; have hfu : fn x 0 = u := fn_get huk; obtain ⟨g6, G1, n1, o1, G2, n2, o2, hsg6, hraw6, hqx6⟩ := SlV.seg3 hrl huk; obtain ⟨D, hD⟩ := hI.bin
          have hfE : f0 + a.length * (E + 2 * Tab.wts l + 1) + (E + 2 * Tab.wts l + 1) ≤ 99999998 := by
            have h9 : a.length * (E + 2 * Tab.wts l + 1) + (E + 2 * Tab.wts l + 1) ≤ (p.free.length + 1) * (E + 2 * Tab.wts l + 1) := by rw [← Nat.succ_mul]; exact Nat.mul_le_mul_right _ (by omega)
            omega
          generalize hff : f0 + a.length * (E + 2 * Tab.wts l + 1) = ff at hD hfE
          have hbq : bitE l q.rows.length q.lp.m ≤ E := by have h9 : bitE l q.rows.length q.lp.m = bitE l p.rows.length p.rows.length := by rw [show q.lp.m = q.rows.length from rfl, hqr]
                                                           omega
          refine vc_skip ?_; refine vc_keep [1, 4, 6, 7] rfl ?_; refine vc_block ?_; refine vc_cut3 (fun (r9 : Value) (z9 : S7) (x9 : List Rat) => put (put (put (put (emp) 1 (.box [.slice Qf q.free.length qf, .slice Qr q.rows.length qr])) 4 (.box [z9.a, z9.b, z9.c, z9.d, z9.e, z9.f, z9.g])) 6 (.val (.slice W a.length cw))) 7 (.val (r9))) (fun (r9 : Value) (z9 : S7) (x9 : List Rat) H' => Gro CanP 31 3 (rem H4 (blk (.slice W a.length cw))) H' (.slice W a.length cw) a ys ∧ SlV (RatP KX) 3 (rem H' (blk (.slice W a.length cw))) r9 x9 ∧ LstV D E ff q x9 ∧ x9.length = x.length) ?_ ?_
          ·
            refine vc_sr ?_; refine vr 1 ?_; refine vco_at_st (vs := [.bool g6, .slice G1 n1 o1, .slice G2 n2 o2]) tbOk rfl rfl rfl rfl (hrr.le (rem_le _ _)) rfl (by decide) hqx6 (by omega) (by omega) fun _ => ?_; refine vco_call rfl rfl (hG.call (Sign_ok hraw6 (by decide))) ?_; rintro _ H5 hF5; have hG5 := hG.rebase.framed canUp hF5 fun _ _ h => h.1; obtain ⟨⟨_, rfl⟩, _⟩ := hF5; have hP5 := hP.le hG5.base; have hR5 := hR.le (ratUp KX) hG5.base; refine vr 1 ?_; refine vco_k [1, 4, 6, 7, 39] ?_; refine vc_cond rfl (fun hb => ?_) (fun hb => ?_)
            ·
              have hsgn : ¬ sgnQ u = 0 := by simpa using hb
              refine vc_sr ?_; refine vr 2 ?_; refine vco_make Tryz.underlying26 el31 rfl rfl rfl (by omega) (by omega) (by omega) (by omega) ?_; intro g hg; have hG6 := hG5.ins canUp ⟨madeL [.bool false, .slice none 0 0, .slice none 0 0] ((x.length : Int).toNat * 3), (x.length : Int).toNat * 3, 31, true⟩ hg; have hgn : ¬ g ∈ blk (.slice W a.length cw) := fun hm => hG5.blkne g hm hg; refine vr 1 ?_; refine vco_k [1, 4, 6, 8] ?_; refine vc_sr ?_; refine vr 1 ?_; refine vco_call rfl rfl (Fn.frame (gs := g :: blk (.slice W a.length cw)) (fun q hq => by rcases List.mem_cons.1 hq with rfl | hq; (rw [ins_same]; simp); exact hG6.blkne q hq) (FromInt_ok (n := 1) (by decide) (by decide))) ?_; rintro _ H7 ⟨⟨hl7, hq7⟩, hs7⟩; obtain ⟨f7, A71, m71, c71, A72, m72, c72, rfl⟩ := hq7.form
              have hg7 : H7 g = some ⟨madeL [.bool false, .slice none 0 0, .slice none 0 0] ((x.length : Int).toNat * 3), (x.length : Int).toNat * 3, 31, true⟩ := by rw [hs7 g (List.mem_cons_self ..), ins_same]
              obtain ⟨ti, hti, htz⟩ := sz31; refine vco_set (.inl rfl) tbOk rfl rfl rfl (by omega) (by rw [Int.toNat_natCast]; exact hx0i) hg7 rfl (by rw [madeL_length, Nat.zero_add]; exact Nat.le_refl _) hti htz (fun _ => rfl) rfl rfl rfl fun _ => ?_; have hrem7 : rem H7 (g :: blk (.slice W a.length cw)) = rem (ins H7 g { (⟨madeL [.bool false, .slice none 0 0, .slice none 0 0] ((x.length : Int).toNat * 3), (x.length : Int).toNat * 3, 31, true⟩ : Ent) with xs := splice (madeL [.bool false, .slice none 0 0, .slice none 0 0] ((x.length : Int).toNat * 3)) (0 + (0 : Int).toNat * 3) [.bool f7, .slice A71 m71 c71, .slice A72 m72 c72] }) (g :: blk (.slice W a.length cw)) := (rem_ins_in _ (List.mem_cons_self ..)).symm
              have hv8 : SlV (RatP KX) 3 (rem (ins H7 g { (⟨madeL [.bool false, .slice none 0 0, .slice none 0 0] ((x.length : Int).toNat * 3), (x.length : Int).toNat * 3, 31, true⟩ : Ent) with xs := splice (madeL [.bool false, .slice none 0 0, .slice none 0 0] ((x.length : Int).toNat * 3)) (0 + (0 : Int).toNat * 3) [.bool f7, .slice A71 m71 c71, .slice A72 m72 c72] }) (blk (.slice W a.length cw))) (.slice (some ⟨g, 0, none⟩) (x.length : Int).toNat (x.length : Int).toNat) (unit0 x.length) := by
                rw [rem_ins_out _ hgn, Int.toNat_natCast]; refine ⟨_, x.length, _, by rw [unit0_len], by rw [unit0_len]; exact Nat.le_refl _, rd_ins _ _ _ _ _ _, ?_⟩
                have hE0 : Els (RatP KX (ins (rem H7 (blk (.slice W a.length cw))) g ⟨splice (madeL [.bool false, .slice none 0 0, .slice none 0 0] (x.length * 3)) (0 * 3) [.bool f7, .slice A71 m71 c71, .slice A72 m72 c72], x.length * 3, 31, true⟩)) 3 (splice (madeL [.bool false, .slice none 0 0, .slice none 0 0] (x.length * 3)) (0 * 3) [.bool f7, .slice A71 m71 c71, .slice A72 m72 c72]) ((List.replicate x.length (0 : Rat)).set 0 1) := by
                  refine Els.set (els_made (P := RatP KX _) rfl rawV_zero x.length) (by rw [List.length_replicate]; exact hx0) ?_ rfl; have h9 : RawV (rem H7 (g :: blk (.slice W a.length cw))) (.agg #[.bool f7, .slice A71 m71 c71, .slice A72 m72 c72]) 1 KX := (CanV.raw (q := (1 : Int)) hq7).mono (by show szQ ((1 : Int) : Rat) ≤ 200000000; exact Nat.le_trans (show szQ ((1 : Int) : Rat) ≤ 1 by decide) (by decide)); refine RawV.le h9 ?_; rw [← rem_ins_out _ hgn]; have h8 := rem_ins_in (H := H7) (gs := g :: blk (.slice W a.length cw)) ⟨splice (madeL [.bool false, .slice none 0 0, .slice none 0 0] (x.length * 3)) (0 * 3) [.bool f7, .slice A71 m71 c71, .slice A72 m72 c72], x.length * 3, 31, true⟩ (List.mem_cons_self ..); rw [← h8]; exact rem_cons_le _ _ _
                exact hE0
              have hl58 : Heap.le (rem H5 (blk (.slice W a.length cw))) (rem (ins H7 g { (⟨madeL [.bool false, .slice none 0 0, .slice none 0 0] ((x.length : Int).toNat * 3), (x.length : Int).toNat * 3, 31, true⟩ : Ent) with xs := splice (madeL [.bool false, .slice none 0 0, .slice none 0 0] ((x.length : Int).toNat * 3)) (0 + (0 : Int).toNat * 3) [.bool f7, .slice A71 m71 c71, .slice A72 m72 c72] }) (blk (.slice W a.length cw))) := by
                have h9 : rem (ins H5 g ⟨madeL [.bool false, .slice none 0 0, .slice none 0 0] ((x.length : Int).toNat * 3), (x.length : Int).toNat * 3, 31, true⟩) (g :: blk (.slice W a.length cw)) = rem H5 (blk (.slice W a.length cw)) := rem_ins_new _ hg
                have h8 : Heap.le (rem H5 (blk (.slice W a.length cw))) (rem H7 (g :: blk (.slice W a.length cw))) := by rw [← h9]; exact hl7
                refine h8.trans ?_; rw [hrem7]; exact rem_cons_le _ _ _
              have hG8 : Gro CanP 31 3 (rem H4 (blk (.slice W a.length cw))) (ins H7 g { (⟨madeL [.bool false, .slice none 0 0, .slice none 0 0] ((x.length : Int).toNat * 3), (x.length : Int).toNat * 3, 31, true⟩ : Ent) with xs := splice (madeL [.bool false, .slice none 0 0, .slice none 0 0] ((x.length : Int).toNat * 3)) (0 + (0 : Int).toNat * 3) [.bool f7, .slice A71 m71 c71, .slice A72 m72 c72] }) (.slice W a.length cw) a ys := hG5.step canUp (fun q9 hq9 => by have hne : q9 ≠ g := fun e => hgn (e ▸ hq9); rw [ins_other _ _ hne, hs7 q9 (List.mem_cons_of_mem _ hq9), ins_other _ _ hne]) hl58
              generalize ins H7 g { (⟨madeL [.bool false, .slice none 0 0, .slice none 0 0] ((x.length : Int).toNat * 3), (x.length : Int).toNat * 3, 31, true⟩ : Ent) with xs := splice (madeL [.bool false, .slice none 0 0, .slice none 0 0] ((x.length : Int).toNat * 3)) (0 + (0 : Int).toNat * 3) [.bool f7, .slice A71 m71 c71, .slice A72 m72 c72] } = H8 at hv8 hl58 hG8 ⊢
              refine vco_k [1, 4, 6, 8] ?_; refine vc_sr ?_; refine vr 2 ?_; refine vco_call rfl rfl (hG8.call (minK_ok (N := KX) (M := bits l q.rows.length q.lp.m ff) (hP5.le hl58) hv8 (by decide) hqok (by rw [unit0_len, hql]) (fit_of hI.inn (fun j _ => by rw [unit0_fn hx0]; split; exact hz.one; exact hz.zero) hD (.inl (Nat.le_refl _))) (by unfold bits; omega))) ?_; rintro _ H9 hF9; have hG9 := hG8.framed canUp hF9 fun _ _ h => h.1; obtain ⟨⟨hl9, S, f9, B91, m91, e91, B92, m92, e92, B9x, e9x, B9d, e9d, B9r, e9r, rfl, hchk, hlast, hval, hsx, hsd, hsr⟩, _⟩ := hF9; have hst := lst_status (q := q) (S := S) (by omega) hqf hqm (by rw [← hql]; exact hchk); obtain ⟨_, k9, _⟩ := hchk.at1 hst; refine vr 3 ?_; obtain ⟨ti, hti, htz⟩ := sz33; refine vco_bstore (.inl ⟨rfl, rfl⟩) rfl rfl rfl hti htz rfl rfl rfl ?_; refine vr 1 ?_; refine vco_k [1, 4, 5, 6] ?_; refine vc_seq ?_; refine vc_sr ?_; refine vr 2 ?_; refine vco_k [1, 4, 5, 6, 53] ?_; refine vc_cond_f rfl ?_; refine vc_skip ?_; refine vc_keep [1, 4, 6] rfl ?_; refine vc_seq ?_; refine vc_sr ?_; refine vr 3 ?_; refine vco_k [1, 4, 6, 57] ?_; refine vc_cond rfl (fun hb => ?_) (fun hb => ?_)
              ·
                have h9 : ¬ S.status = 1 := by simpa using hb
                exact absurd hst h9
              ·
                skip
                refine vc_skip ?_; refine vc_keep [1, 4, 6] rfl ?_; refine vc_region rfl ?_; refine vr 3 ?_; refine vco_end ?_; exact ⟨_, ⟨_, _, _, _, _, _, _⟩, S.x, sub_auto, hG9, hsx, lstV_min (by omega) hI.inn hz.one hz.zero hD (.inl (Nat.le_refl _)) hbq (by rw [← hql]; exact hchk) hst (by rw [← hql]; exact hlast), by rw [k9.feas.len, hql]⟩
            ·
              have hsgn : sgnQ u = 0 := by simpa using hb
              have hu0 : u = 0 := sgn_zero hsgn; refine vc_skip ?_; exact ⟨_, z, x, sub_auto, hG5, hR5, lstV_zero (by omega) hqf hqm hql (by rw [hfu]; exact hu0), rfl⟩
          ·
            rintro r9 z9 x9 H9 ⟨hG9, hR9, hV9, hxl9⟩; obtain ⟨Rx9, rx9, xx9, rfl, hrx9, hrr9, hrl9⟩ := id hR9
            have hx90 : 0 < x9.length := by omega
            obtain ⟨u9, huk9⟩ : ∃ u, x9[0]? = some u := ⟨_, List.getElem?_eq_getElem hx90⟩; have hfu9 : fn x9 0 = u9 := fn_get huk9; obtain ⟨h6, U1, v1, y1, U2, v2, y2, hsg9, hraw9, hqx9⟩ := SlV.seg3 hrl9 huk9; obtain ⟨D1, d11, d12, d13⟩ := hV9.com
            have hq0 : 0 < q.free.length := by omega
            have hb9 : BIn (Tab.dens l * (D1 * D)) (f0 + (a ++ [fn x9 0]).length * (E + 2 * Tab.wts l + 1)) (fixP q (fn x9 0)) := by
              have h9 := bin_fix hI.inn hq0 hD d11 d12 d13; rw [show f0 + (a ++ [fn x9 0]).length * (E + 2 * Tab.wts l + 1) = 2 * Tab.wts l + (E + ff) + 1 by rw [List.length_append, List.length_singleton, Nat.succ_mul a.length]; omega]; exact h9
            have hnn : 0 ≤ fn x9 0 := hV9.meets.1 0 hq0 (free0 hqf 0)
            have hm9 : (fixP q (fn x9 0)).lp.Meets 1 (fn (x9.drop 1)) := by
              have h9 := (fix_meets (v := fn x9 0) hq0 (fn x9) rfl (fun _ => hnn)).2 hV9.meets
              have e9 : (fun j => fn x9 (j + 1)) = fn (x9.drop 1) := by funext j; rw [fn_drop]
              rwa [e9] at h9
            have hch9 : ∀ y, LexMin (fixP q (fn x9 0)) y → LexMin p ((a ++ [fn x9 0]) ++ y) := fun y hy => by
              rw [List.append_assoc]; exact hI.chain _ (lexMin_cons hq0 (free0 hqf 0) hnn hV9.min hy)
            have hsx9 : szQ (fn x9 0) ≤ KX := by
              have h9 := com_sz (f := E + ff) (Nat.mul_pos d11 hD.pos) (by rw [Nat.pow_add]; exact Nat.mul_le_mul d12 hD.le) d13
              show _ ≤ 200000000
              omega
            have hz9 : ∀ q', q' ∈ a ++ [fn x9 0] → szQ q' ≤ KX := fun q' h => by
              rcases List.mem_append.1 h with h | h
              · exact hI.sz q' h
              · rw [List.mem_singleton] at h; rw [h]; exact hsx9
            have hMq : ∀ r, r ∈ q.rows → szQ (r.2.2 - fn r.1 0 * u9) ≤ KX := fun r hr => by
              obtain ⟨i, hi⟩ := List.getElem?_of_mem hr; have hil := (List.getElem?_eq_some_iff.1 hi).1; have h9 := hb9.b i (show i < (q.rows.map _).length by rw [List.length_map]; exact hil)
              have e9 : (fixP q (fn x9 0)).lp.b i = r.2.2 - fn r.1 0 * u9 := by
                show ((fixP q (fn x9 0)).row i).2.2 = _
                rw [fix_row hil, Prg.row_get hi, hfu9]
              rw [e9] at h9; have h8 := com_sz hb9.pos hb9.le h9
              have e8 : f0 + (a ++ [fn x9 0]).length * (E + 2 * Tab.wts l + 1) = 2 * Tab.wts l + (E + ff) + 1 := by rw [List.length_append, List.length_singleton, Nat.succ_mul a.length]; omega
              show _ ≤ 200000000
              omega
            have hal : a.length ≤ 400 := by omega
            refine vc_sr ?_; refine vr 2 ?_; refine vco_at_st (vs := [.bool h6, .slice U1 v1 y1, .slice U2 v2 y2]) tbOk rfl rfl rfl rfl (hrr9.le (rem_le _ _)) rfl (by decide) hqx9 (by omega) (by omega) fun _ => ?_; refine vco_call rfl rfl (hG9.call (Canonical_ok hraw9 (by decide))) ?_; rintro _ H6 hF6; have hG6 := hG9.rebase.framed canUp hF6 fun _ _ h => h.1; obtain ⟨⟨_, hq6⟩, _⟩ := hF6; obtain ⟨f6, A61, m61, c61, A62, m62, c62, rfl⟩ := hq6.form; refine vco_build Tryz.underlying26 el31 rfl rfl rfl rfl rfl rfl rfl ?_; intro gb hgb; have hG6b := hG6.ins canUp (whole (cellsL [.agg #[.bool f6, .slice A61 m61 c61, .slice A62 m62 c62]]) 31) hgb; refine vco_append Tryz.underlying26 el31 rfl rfl hG6b.own (rd_ins _ _ _ _ _ _) rfl (one_rat _ _ _ _ _ _ _) (by omega) (by omega) ?_; intro v7 H7 ha7; have hG7 := hG6b.append canUp (k := [fn x9 0]) (by simp) ha7 (els_one (canUp _ _ _ _ (rem_mono _ (Heap.le_ins _ hgb)) (show CanP _ [_, _, _] _ from hfu9 ▸ hq6)) rfl); obtain ⟨F7, c7, rfl⟩ := hG7.form; have hl97 := hG7.base; have hP7 := (hP.le hG9.base).le hl97; have hraw7 := hraw9.le hl97; have hR7 := hR9.le (ratUp KX) hl97; refine vr 1 ?_; refine vco_k [1, 4, 6, 7] ?_; refine vc_sd .drawB [0, 1, 2, 3, 4, 5] follows (by kernel_rfl) ?_; refine vr 2 ?_; refine vco_at_st (vs := [.bool h6, .slice U1 v1 y1, .slice U2 v2 y2]) tbOk rfl rfl rfl rfl ((hrr9.le hl97).le (rem_le _ _)) rfl (by decide) hqx9 (by omega) (by omega) fun _ => ?_; refine vco_callM rfl rfl (hG7.call (fix_ok' (t := ⟨h6, U1, v1, y1, U2, v2, y2⟩) (M := KX) hP7 hraw7 hqok hq0 (by decide) (Nat.le_refl _) hMq)) (fun _ _ h => h.le fun _ _ h => h.1) ?_
            rintro _ H8 hF8; have hG8' := hG7.rebase.framed canUp hF8 fun _ _ h => h.1; obtain ⟨⟨_, P1, p1, d1, P2, p2, d2, rfl, hp9⟩, _⟩ := hF8; rw [← hfu9] at hp9; have hr9 := (hR7.le (ratUp KX) hG8'.base).from (k := 1) (by omega); have hG8 := hG8'.down (((hG.base.trans hG9.base).trans hl97)); obtain ⟨ti, hti, htz⟩ := sz25; refine vco_bstore (.inl ⟨rfl, rfl⟩) rfl rfl rfl hti htz rfl rfl rfl ?_; refine vco_k [1, 4, 6, 7] ?_; refine vc_region rfl ?_; refine vr 1 ?_; refine vco_slice (l := 1) (h := x9.length) tbOk rfl rfl (.inr ⟨_, _, rfl, rfl⟩) (.inl ⟨rfl, rfl⟩) (by omega) (by omega) ?_; refine vr 1 ?_; refine vco_end ?_; exact ⟨(_, _, _, _), _, z9, (fixP q (fn x9 0), a ++ [fn x9 0], x9.drop 1), by show (x9.drop 1).length < x.length; rw [List.length_drop]; omega, sub_auto, ⟨hG8, hp9, hr9, fix_ok hqok (by omega), fix_free hqf, hm9, by show (x9.drop 1).length = (q.free.drop 1).length; rw [List.length_drop, List.length_drop, hV9.len], hch9, by show (a ++ [fn x9 0]).length + (q.free.drop 1).length = _; rw [List.length_append, List.length_drop, List.length_singleton]; omega, by show (q.rows.map _).length = _; rw [List.length_map]; exact hqr, fix_in hI.inn, ⟨_, hb9⟩, hz9⟩⟩
        ·
          have hx0i : (x.length : Int) ≤ 0 := by simpa using hb
          have hx0 : x = [] := List.length_eq_zero_iff.1 (by omega); have hq0 : q.free = [] := List.length_eq_zero_iff.1 (by rw [← hql, hx0]; rfl); have hmin := hI.chain [] (lexMin_nil hq0 hqm)
          simp only [List.append_nil] at hmin
          refine vc_exit ?_; refine vc_keep [6] rfl ?_; refine vc_sr ?_; refine vr 3 ?_; refine vco_k [2, 3] ?_; refine vc_ret ⟨.inr rfl, _, .tmp rfl (.tmp rfl (.nil)), ?_⟩; exact ⟨hG.le, _, _, _, 0, rfl, .inr (.inr (.inr ⟨hok, hfr, rfl, a, hmin, (hG.sl canUp).can_rat hI.sz⟩))⟩
end Go.Eng
