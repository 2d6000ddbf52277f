/- Part 8 of the proof: Mz, Mz2. -/
import Derived.Test.YtemchaglffchjaaA07
set_option linter.unusedVariables false
/- What Minimize computes, in plain terms: the phases' invariants and the sizes of their numbers. -/
namespace Go.Eng
open Go.Proofs Num Lp
/-! ## sizes -/
theorem com_up {D X : Nat} {q : Rat} (D' : Nat) (h : Tab.Com D X q) : Tab.Com (D * D') (X * D') q := by
  obtain ⟨z, h1, h2⟩ := h
  refine ⟨z * D', ?_, ?_⟩
  · rw [Rat.natCast_mul, Rat.intCast_mul, ← h1]
    have : ((D' : Int) : Rat) = (D' : Rat) := rfl
    rw [this]; grind
  · rw [Int.natAbs_mul, Int.natAbs_natCast]; exact Nat.mul_le_mul_right _ h2
theorem com_mul {D D' X Y : Nat} {q r : Rat} (h : Tab.Com D X q) (k : Tab.Com D' Y r) : Tab.Com (D * D') (X * Y) (q * r) := by
  obtain ⟨z, h1, h2⟩ := h
  obtain ⟨y, k1, k2⟩ := k
  refine ⟨z * y, ?_, ?_⟩
  · rw [Rat.natCast_mul, Rat.intCast_mul, ← h1, ← k1]; grind
  · rw [Int.natAbs_mul]; exact Nat.mul_le_mul h2 k2
theorem prc_com {T : Tab} {f : Nat → Rat} {D D' X Y k j : Nat} (hB : ∀ i, i < T.m → T.B i < T.n) (hf : ∀ j, j < T.n → Tab.Com D X (f j)) (hA : ∀ i, i < T.m → Tab.Com D' Y (T.A i j)) (hk : k ≤ T.m) (hj : j ≤ T.n) :
    Tab.Com (D * D') (X * D' + k * (X * Y)) (prc T f k j) := by
  unfold prc
  refine Tab.Com.sub ?_ (Tab.com_sum k _ fun i hi => com_mul (hf _ (hB i (by omega))) (hA i (by omega)))
  split
  · exact Tab.com_zero _ _
  · exact com_up _ (hf j (by omega))
theorem pow_lt_B (e : Nat) : 2 ^ e < B ^ (e + 1) := by
  have h1 : 2 ^ (e + 1) ≤ B ^ (e + 1) := Nat.pow_le_pow_left (by decide) _
  have h2 : 2 ^ e < 2 ^ (e + 1) := Nat.pow_lt_pow_right (by decide) (by omega)
  omega
theorem com_szQ {D X e : Nat} {q : Rat} (hD : 0 < D) (h : Tab.Com D X q) (h1 : D ≤ 2 ^ e) (h2 : X ≤ 2 ^ e) : szQ q ≤ e + 1 := by
  have h3 := Tab.com_size hD h
  have h4 := pow_lt_B e
  unfold szQ
  rw [Nat.max_le, limbs_len_le, limbs_len_le]
  omega
theorem lst_le {D D0 n j e f : Nat} (hD : D ≤ 2 ^ e) (h0 : D0 ≤ 2 ^ f) : D * Tab.lst n j D0 1 ≤ 2 ^ (e + f) ∧ 2 ^ (e + Tab.lst n j f 0) ≤ 2 ^ (e + f) := by
  have h1 : (1 : Nat) ≤ 2 ^ f := Nat.one_le_two_pow
  unfold Tab.lst
  split
  · exact ⟨by rw [Nat.pow_add]; exact Nat.mul_le_mul hD h0, Nat.le_refl _⟩
  · exact ⟨by rw [Nat.pow_add]; exact Nat.mul_le_mul hD h1, Nat.pow_le_pow_right (by decide) (by omega)⟩
theorem lst_pos {D D0 n j : Nat} (hD : 0 < D) (h0 : 0 < D0) : 0 < D * Tab.lst n j D0 1 := Nat.mul_pos hD (by unfold Tab.lst; split <;> omega)
theorem bd_sz {D0 f e : Nat} {T : Tab} (h : Tab.Bd D0 f e T) (p0 : 0 < D0) (h0 : D0 ≤ 2 ^ f) : Sz (e + f + 1) T := by
  obtain ⟨D, h1, h2, h3, h4⟩ := h
  exact ⟨fun i hi j hj => com_szQ (lst_pos h1 p0) (h3 i hi j hj) (lst_le h2 h0).1 (lst_le (j := j) (n := T.n) h2 h0).2, fun j hj => com_szQ (lst_pos h1 p0) (h4 j hj) (lst_le h2 h0).1 (lst_le (j := j) (n := T.n) h2 h0).2⟩
/-- The coefficients of a program lie in a list. -/
def In (l : List Rat) (p : Prg) : Prop := ∀ i, i < p.lp.m → ∀ j, j < p.lp.n → p.lp.a i j ∈ l
/-- Its bounds have a common denominator. -/
structure BIn (D0 f : Nat) (p : Prg) : Prop where
  pos : 0 < D0
  le : D0 ≤ 2 ^ f
  b : ∀ i, i < p.lp.m → Tab.Com D0 (2 ^ f) (p.lp.b i)
theorem upd_all {P : Rat → Prop} {f : Nat → Rat} {k : Nat} {q : Rat} (hf : ∀ j, P (f j)) (hq : P q) : ∀ j, P (upd f k q j) := fun j => by
  unfold upd; split
  · exact hq
  · exact hf j
/-- A number over the list's common denominator. -/
abbrev CM (l : List Rat) (q : Rat) : Prop := Tab.Com (Tab.dens l) (2 ^ (2 * Tab.wts l)) q
section
variable {p : Prg} {l : List Rat}
theorem cm_sg {D X : Nat} {q : Rat} {s : Int} (h : Tab.Com D X q) (hs : s = 1 ∨ s = -1) : Tab.Com D X (q * (s : Rat)) := by
  rcases hs with e | e
  · rw [e, show q * ((1 : Int) : Rat) = q by grind]; exact h
  · rw [e, show q * ((-1 : Int) : Rat) = -q by grind]; exact h.neg
theorem cm_one : CM l 1 := Tab.com_int l 1 (by decide)
theorem cm_s {s : Int} (hs : s = 1 ∨ s = -1) : CM l (s : Rat) := Tab.com_int l s (by omega)
theorem rwk_cm {a : Nat → Rat} {s : Int} (hs : s = 1 ∨ s = -1) (k : Nat) (ha : ∀ j, j < k → CM l (a j)) (L : TL) : ∀ j, CM l (rwk L a (s : Rat) k j) := by
  induction k with
  | zero => exact fun j => Tab.com_zero _ _
  | succ k ih =>
    have ih' := ih (fun j hj => ha j (by omega))
    have h1 := cm_sg (ha k (by omega)) hs
    intro j
    rw [rwk_succ]
    split
    · exact upd_all (upd_all ih' h1) h1.neg j
    · exact upd_all ih' h1 j
theorem tab0_cm (h : In l p) {i : Nat} (hi : i < p.lp.m) {j : Nat} (hj : j ≠ p.w) : CM l (p.tab0.A i j) := by
  have hs := sgi_or (p.lp.b i) (p.lp.rel i)
  rw [tab0_A, upd_ne hj]
  refine upd_all (fun j => ?_) cm_one j
  have h1 := rwk_cm (l := l) (L := p.lay) hs p.lp.n (fun j hj => Tab.com_mem (h i hi j hj))
  unfold rwS
  split
  · exact upd_all h1 (cm_s hs) j
  · split
    · exact upd_all h1 (cm_s hs).neg j
    · exact h1 j
theorem tab0_cb {D0 f : Nat} (h : BIn D0 f p) {i : Nat} (hi : i < p.lp.m) : Tab.Com D0 (2 ^ f) (p.tab0.A i p.w) := by
  rw [tab0_A, upd_at]
  exact cm_sg (h.b i hi) (sgi_or (p.lp.b i) (p.lp.rel i))
/-! ## the invariant -/
/-- The tableau with the costs c0 priced out. -/
def priced (T : Tab) (c0 : Nat → Rat) : Tab := { T with c := prc T c0 T.m }
structure Inv (p : Prg) (c0 : Nat → Rat) (S : Tab) : Prop where
  wf : S.WF
  feas : S.Feas
  rows : Tab.Rows p.tab0.A p.lp.m p.w S
  off : Lay.Off p.tab0.A p.lp.m p.w c0 S.c
theorem prc_zero {T : Tab} {c0 : Nat → Rat} (hB : ∀ i, i < T.m → T.B i < T.n) (hu : ∀ i k, i < T.m → k < T.m → T.A k (T.B i) = if k = i then 1 else 0) {i : Nat} (hi : i < T.m) : prc T c0 T.m (T.B i) = 0 := by
  unfold prc
  have h1 := hB i hi
  rw [if_neg (by omega), sumN_single hi _ (fun k hk hne => by rw [hu i k hi hk, if_neg hne]; grind), hu i i hi hi, if_pos rfl]
  grind
theorem Inv.price {S : Tab} {c0 : Nat → Rat} (h0 : c0 p.w = 0) (hW : S.WF) (hF : S.Feas) (hR : Tab.Rows p.tab0.A p.lp.m p.w S) : Inv p c0 (priced S c0) := by
  have hR' : Tab.Rows p.tab0.A p.lp.m p.w (priced S c0) := ⟨hR.m, hR.n, hR.mul, hR.sol⟩
  refine ⟨⟨hW.lt, hW.unit, fun i hi => prc_zero hW.lt hW.unit hi⟩, hF, hR', hR.off c0 (fun i => c0 (S.B i)) fun j hj => ?_⟩
  show prc S c0 S.m j = _
  unfold prc
  rw [hR.m, hR.n]
  by_cases e : j = p.w
  · rw [if_pos e, e, h0]
  · rw [if_neg e]
theorem Inv.step {S : Tab} {c0 : Nat → Rat} (h : Inv p c0 S) {u r s : Nat} (hu : u ≤ S.n) (hb : S.Bland u r s) : Inv p c0 (S.pivot r s) := by
  have hp : S.A r s ≠ 0 := by have := hb.pos; grind
  have hs := hb.su
  have hr := hb.rm
  exact ⟨Tab.pivot_wf h.wf hr (by omega) hp, Tab.pivot_feas h.feas hb, h.rows.pivot (by rw [← h.rows.m]; exact hr) hp, h.rows.offp h.off (by rw [← h.rows.m]; exact hr)⟩
theorem Inv.same {S T : Tab} {c0 : Nat → Rat} (h : Inv p c0 S) (h' : Inv p c0 T) : Tab.Same S T :=
  ⟨by rw [h.rows.m, h'.rows.m], by rw [h.rows.n, h'.rows.n], fun x => by rw [h.rows.sol, h'.rows.sol], fun x hx => by
    rw [h.rows.cost h.off hx, h'.rows.cost h'.off ((h'.rows.sol x).2 ((h.rows.sol x).1 hx))]⟩
theorem two_pow_ge (m : Nat) : m + 1 ≤ 2 ^ m := by
  induction m with
  | zero => decide
  | succ m ih => rw [Nat.pow_succ]; omega
theorem base_bd {D0 f : Nat} (h : In l p) (hb : BIn D0 f p) {c0 : Nat → Rat} (hc : ∀ j, j < p.w → CM l (c0 j)) : Tab.Bd D0 f (4 * Tab.wts l + p.lp.m) (priced p.tab0 c0) := by
  have hD := Tab.dens_pos l
  have hD2 := Tab.dens_le l
  have hm := two_pow_ge p.lp.m
  generalize hX0 : 2 ^ (2 * Tab.wts l) = X at *
  have hX : 1 ≤ X := by rw [← hX0]; exact Nat.one_le_two_pow
  have hDX : Tab.dens l ≤ X := by rw [← hX0]; exact Nat.le_trans hD2 (Nat.pow_le_pow_right (by decide) (by omega))
  have p2 : 2 ^ (4 * Tab.wts l + p.lp.m) = X * X * 2 ^ p.lp.m := by rw [← hX0, ← Nat.pow_add, ← Nat.pow_add]; congr 1; omega
  have hDD : Tab.dens l * Tab.dens l ≤ X * X := Nat.mul_le_mul hDX hDX
  have hXD : X * Tab.dens l ≤ X * X := Nat.mul_le_mul_left _ hDX
  have hM : ∀ x, x ≤ X * X → x ≤ 2 ^ (4 * Tab.wts l + p.lp.m) := fun x hx => by
    rw [p2]; exact Nat.le_trans hx (Nat.le_mul_of_pos_right _ (by omega))
  have hcm : ∀ {q}, CM l q → Tab.Com (Tab.dens l) X q := fun {q} h => by rw [← hX0]; exact h
  have hnw : (priced p.tab0 c0).n = p.w := rfl
  refine ⟨Tab.dens l * Tab.dens l, Nat.mul_pos hD hD, hM _ hDD, fun i hi j hj => ?_, fun j hj => ?_⟩
  · by_cases e : j = p.w
    · subst e
      rw [← hnw, Tab.lst_n, Tab.lst_n, Nat.mul_comm, hnw]
      refine (com_up (Tab.dens l * Tab.dens l) (tab0_cb hb hi)).mono ?_
      rw [Nat.pow_add, Nat.mul_comm]
      exact Nat.mul_le_mul_right _ (hM _ hDD)
    · rw [Tab.lst_lt (by rw [hnw] at hj ⊢; omega), Tab.lst_lt (by rw [hnw] at hj ⊢; omega), Nat.mul_one]
      exact (com_up _ (hcm (tab0_cm h hi e))).mono (hM _ hXD)
  · by_cases e : j = p.w
    · subst e
      rw [← hnw, Tab.lst_n, Tab.lst_n, hnw]
      have h1 := com_up (Tab.dens l) (prc_com (T := p.tab0) (k := p.lp.m) (j := p.w) (fun i hi => unit_lt p hi) (fun j hj => hcm (hc j hj)) (fun i hi => tab0_cb hb hi) (Nat.le_refl _) hj)
      rw [show Tab.dens l * Tab.dens l * D0 = Tab.dens l * D0 * Tab.dens l by rw [Nat.mul_assoc, Nat.mul_assoc, Nat.mul_comm D0]]
      refine h1.mono ?_
      have h2 : X * D0 ≤ X * 2 ^ f := Nat.mul_le_mul_left _ hb.le
      have h3 : X * D0 + p.lp.m * (X * 2 ^ f) ≤ (p.lp.m + 1) * (X * 2 ^ f) := by rw [Nat.succ_mul p.lp.m]; omega
      refine Nat.le_trans (Nat.mul_le_mul h3 hDX) ?_
      rw [Nat.pow_add, p2]
      have e4 : (p.lp.m + 1) * (X * 2 ^ f) * X = X * X * (p.lp.m + 1) * 2 ^ f := by
        rw [Nat.mul_comm _ X, Nat.mul_left_comm (p.lp.m + 1) X, ← Nat.mul_assoc, Nat.mul_assoc (X * X)]
      rw [e4]
      exact Nat.mul_le_mul_right _ (Nat.mul_le_mul_left _ hm)
    · rw [Tab.lst_lt (by rw [hnw] at hj ⊢; omega), Tab.lst_lt (by rw [hnw] at hj ⊢; omega), Nat.mul_one]
      refine (prc_com (T := p.tab0) (k := p.lp.m) (fun i hi => unit_lt p hi) (fun j hj => hcm (hc j hj)) (fun i hi => hcm (tab0_cm h hi e)) (Nat.le_refl _) hj).mono ?_
      rw [Nat.add_zero, p2]
      refine Nat.le_trans (m := (p.lp.m + 1) * (X * X)) ?_ (by rw [Nat.mul_comm]; exact Nat.mul_le_mul_left _ hm)
      rw [Nat.succ_mul p.lp.m]; omega
/-- The bits that the numbers of a run need: k columns at most come into the basis; the bounds have f bits. -/
def bitE (l : List Rat) (k m : Nat) : Nat := 2 ^ k * (4 * Tab.wts l + m + 1)
def bits (l : List Rat) (k m f : Nat) : Nat := bitE l k m + f
theorem Inv.base {c0 : Nat → Rat} (h0 : c0 p.w = 0) : Inv p c0 (priced p.tab0 c0) := Inv.price h0 tab0_wf tab0_feas tab0_rows
/-- At most k columns come into the basis. -/
def Cin (p : Prg) (k : Nat) : Prop := p.lp.m ≤ k ∨ p.w ≤ p.lp.m + k
theorem Inv.bd {D0 f k : Nat} {S : Tab} {c0 : Nat → Rat} (h : Inv p c0 S) (hl : In l p) (hb : BIn D0 f p) (hk : Cin p k) (h0 : c0 p.w = 0) (hc : ∀ j, j < p.w → CM l (c0 j)) : Tab.Bd D0 f (bitE l k p.lp.m - 1) S := by
  refine Tab.bd_all (Inv.base h0).wf h.wf ((Inv.base h0).same h) (base_bd hl hb hc) ?_
  rcases hk with hk | hk
  · exact Nat.le_trans (Tab.cnt_le _ _) (by rw [h.rows.m]; exact hk)
  · have h1 := Tab.cnt_le2 (Inv.base h0).wf h.wf ((Inv.base h0).same h)
    have h2 : (priced p.tab0 c0).n = p.w := rfl
    have h3 : (priced p.tab0 c0).m = p.lp.m := rfl
    omega
theorem bitE_pos (l : List Rat) (k m : Nat) : 2 * Tab.wts l + m + 1 ≤ bitE l k m := by
  unfold bitE
  have h1 : 1 ≤ 2 ^ k := Nat.one_le_two_pow
  have h2 : 1 * (4 * Tab.wts l + m + 1) ≤ 2 ^ k * (4 * Tab.wts l + m + 1) := Nat.mul_le_mul_right _ h1
  omega
theorem Inv.sz {D0 f k : Nat} {S : Tab} {c0 : Nat → Rat} (h : Inv p c0 S) (hl : In l p) (hb : BIn D0 f p) (hk : Cin p k) (h0 : c0 p.w = 0) (hc : ∀ j, j < p.w → CM l (c0 j)) : Sz (bits l k p.lp.m f) S := by
  have h1 := bd_sz (h.bd hl hb hk h0 hc) hb.pos hb.le
  have h2 := bitE_pos l k p.lp.m
  rwa [show bitE l k p.lp.m - 1 + f + 1 = bits l k p.lp.m f by unfold bits; omega] at h1
theorem cm_sz {q : Rat} (h : CM l q) (k m f : Nat) : szQ q ≤ bits l k m f := by
  have h2 := bitE_pos l k m
  refine Nat.le_trans (com_szQ (e := 2 * Tab.wts l) (Tab.dens_pos l) h ?_ (Nat.le_refl _)) (by unfold bits; omega)
  exact Nat.le_trans (Tab.dens_le l) (Nat.pow_le_pow_right (by decide) (by omega))
/-- The numbers that arise while costs are priced out. -/
theorem price_sz {D0 f k : Nat} {S : Tab} {c1 : Nat → Rat} (hB : ∀ i, i < S.m → S.B i < S.n) (hm : S.m = p.lp.m) (hn : S.n = p.w) (hb : Tab.Bd D0 f (bitE l k p.lp.m - 1) S) (p0 : 0 < D0) (h0 : D0 ≤ 2 ^ f) (hc : ∀ j, j < p.w → CM l (c1 j)) : ∀ k', k' ≤ S.m → ∀ j, j ≤ S.n → szQ (prc S c1 k' j) ≤ 2 * bits l k p.lp.m f := by
  intro k' hk j hj
  obtain ⟨D, h1, h2, h3, _⟩ := hb
  have hbp := bitE_pos l k p.lp.m
  have hD := Tab.dens_pos l
  have hD2 := Tab.dens_le l
  obtain ⟨q1, q2⟩ := lst_le (j := j) (n := S.n) h2 h0
  have key := prc_com hB (fun j hj => hc j (by omega)) (fun i hi => h3 i hi j hj) hk hj
  refine Nat.le_trans (com_szQ (e := 2 * Tab.wts l + (bitE l k p.lp.m - 1 + f) + p.lp.m) (Nat.mul_pos hD (lst_pos h1 p0)) key ?_ ?_) (by unfold bits; omega)
  · refine Nat.le_trans (Nat.mul_le_mul hD2 q1) ?_
    rw [← Nat.pow_add]
    exact Nat.pow_le_pow_right (by decide) (by omega)
  · rw [Nat.pow_add _ _ p.lp.m, Nat.pow_add 2 (2 * Tab.wts l) (bitE l k p.lp.m - 1 + f)]
    generalize 2 ^ (bitE l k p.lp.m - 1 + f) = Z at *
    have g1 : 2 ^ (2 * Tab.wts l) * (D * Tab.lst S.n j D0 1) ≤ 2 ^ (2 * Tab.wts l) * Z := Nat.mul_le_mul_left _ q1
    have g3 : k' * (2 ^ (2 * Tab.wts l) * 2 ^ (bitE l k p.lp.m - 1 + Tab.lst S.n j f 0)) ≤ k' * (2 ^ (2 * Tab.wts l) * Z) := Nat.mul_le_mul_left _ (Nat.mul_le_mul_left _ q2)
    have g2 := two_pow_ge p.lp.m
    refine Nat.le_trans (m := (k' + 1) * (2 ^ (2 * Tab.wts l) * Z)) (by rw [Nat.succ_mul k', Nat.add_comm]; exact Nat.add_le_add g3 g1) ?_
    rw [Nat.mul_comm]; exact Nat.mul_le_mul_left _ (by omega)
end
end Go.Eng
/- What Minimize answers, in plain terms. -/
namespace Go.Eng
open Go.Proofs Num Lp
/-! ## what a function is beyond its range does not matter -/
section
variable {p : LP}
theorem dot_fn {n : Nat} {a x x' : Nat → Rat} (h : ∀ j, j < n → x j = x' j) : dotN n a x = dotN n a x' := dotN_congr (fun _ _ => rfl) h
theorem Meets.congr {t : Rat} {x x' : Nat → Rat} (h : ∀ j, j < p.n → x j = x' j) (hm : p.Meets t x) : p.Meets t x' :=
  ⟨fun j hj hf => by rw [← h j hj]; exact hm.1 j hj hf, fun i hi => by rw [← dot_fn h]; exact hm.2 i hi⟩
theorem Signed.congr {y y' : Nat → Rat} (h : ∀ i, i < p.m → y i = y' i) (hm : p.Signed y) : p.Signed y' := fun i hi => by rw [← h i hi]; exact hm i hi
theorem colsum_congr {y y' : Nat → Rat} (h : ∀ i, i < p.m → y i = y' i) (j : Nat) : p.colsum y j = p.colsum y' j := sumN_congr fun i hi => by rw [h i hi]
theorem bndsum_congr {y y' : Nat → Rat} (h : ∀ i, i < p.m → y i = y' i) : p.bndsum y = p.bndsum y' := sumN_congr fun i hi => by rw [h i hi]
theorem CertOpt.congr {c x x' y y' : Nat → Rat} (hx : ∀ j, j < p.n → x j = x' j) (hy : ∀ i, i < p.m → y i = y' i) (h : p.CertOpt c x y) : p.CertOpt c x' y' :=
  ⟨Meets.congr hx h.feas, Signed.congr hy h.signed, fun j hj => by rw [← colsum_congr hy]; exact h.cols j hj, by rw [← bndsum_congr hy, ← dot_fn hx]; exact h.eq⟩
theorem CertInf.congr {y y' : Nat → Rat} (hy : ∀ i, i < p.m → y i = y' i) (h : p.CertInf y) : p.CertInf y' :=
  ⟨Signed.congr hy h.signed, fun j hj => by rw [← colsum_congr hy]; exact h.cols j hj, by rw [← bndsum_congr hy]; exact h.pos⟩
theorem CertUnb.congr {c x x' r r' : Nat → Rat} (hx : ∀ j, j < p.n → x j = x' j) (hr : ∀ j, j < p.n → r j = r' j) (h : p.CertUnb c x r) : p.CertUnb c x' r' :=
  ⟨Meets.congr hx h.feas, Meets.congr hr h.ray, by rw [← dot_fn hr]; exact h.neg⟩
end
section
variable {p : Prg} {l c : List Rat} {T : Tab}
abbrev pn (p : Prg) : Nat → Rat := Tab.pen p.u p.w
/-- The costs of an objective over the columns. -/
abbrev cst (p : Prg) (c : List Rat) : Nat → Rat := rwk p.lay (fn c) 1 p.lp.n
theorem pn_last : pn p p.w = 0 := Tab.pen_last _ _
theorem pn_cm (j : Nat) : CM l (pn p j) := by
  show CM l (Tab.pen _ _ _)
  unfold Tab.pen; split
  · exact cm_one
  · exact Tab.com_zero _ _
theorem cst_ok : Tab.Costs p.lp p.w p.lay.pF p.lay.mF p.slk (fn c) (cst p c) where
  pl j hj := by rw [lay_pF p hj]; show rwk p.lay (fn c) 1 p.lp.n _ = _; rw [(rwk_plus (Nat.le_refl _) hj).1]; grind
  mi j hj k hk := by
    rw [lay_mF hj] at hk
    by_cases hf : p.lp.free j = true
    · rw [if_pos hf] at hk; cases hk
      show rwk p.lay (fn c) 1 p.lp.n _ = _
      rw [(rwk_plus (Nat.le_refl _) hj).2 hf]; grind
    · rw [if_neg hf] at hk; cases hk
  sl i hi k hk := by
    unfold Prg.slk at hk
    split at hk
    · cases hk
    · cases hk
      exact rwk_out (Nat.le_refl _) (slc_le _ _ _).2
  last := rwk_out (Nat.le_refl _) (Nat.le_trans (c1_u p) (u_w p))
theorem cst_last : cst p c p.w = 0 := (cst_ok (p := p) (c := c)).last
theorem cst_cm (hc : ∀ j, j < p.lp.n → fn c j ∈ l) (j : Nat) : CM l (cst p c j) := by
  have := rwk_cm (l := l) (a := fn c) (s := 1) (.inl rfl) p.lp.n (fun j hj => Tab.com_mem (hc j hj)) p.lay j
  exact this
/-- No vector meets the rows. -/
theorem mz_inf (hok : p.Ok) (h : Inv p (pn p) T) (hn : ∀ j, j < p.u → 0 ≤ T.c j) (hneg : T.c p.w < 0) : ChkInf p (vals (fun i => p.lay.sF i * (pn p (p.lay.uF i) - T.c (p.lay.uF i))) p.lp.m) :=
  ⟨hok, vals_len _ _, CertInf.congr (fun i hi => (fn_vals hi).symm) (Lay.cert_inf (lay_ok hok) h.off (fun j hj => Tab.pen_low hj) pn_last hn hneg)⟩
/-- Behind the first phase. -/
theorem mz_clean (h : Inv p (pn p) T) (hv : ¬ T.c p.w < 0) : Tab.Clean p.u 0 T :=
  Tab.Clean.start (Tab.phase1_zero h.wf h.feas h.rows h.off (by grind)).2
theorem mz_noray (h : Inv p (pn p) T) {s : Nat} (hs : s < p.u) (hneg : T.c s < 0) (hA : ∀ i, i < T.m → T.A i s ≤ 0) : False :=
  Tab.phase1_ray h.wf h.rows h.off (Nat.lt_of_lt_of_le hs (u_w p)) hneg hA
/-- What holds while artificial columns leave. -/
def Jx (p : Prg) (k : Nat) (S : Tab) : Prop := Inv p (pn p) S ∧ Tab.Clean p.u k S
theorem Jx.skip {k : Nat} (h : Jx p k T) (hk : T.B k < p.u ∨ ∀ j, j < p.u → T.A k j = 0) : Jx p (k + 1) T := ⟨h.1, h.2.skip hk⟩
theorem Jx.pivot {k s : Nat} (h : Jx p k T) (hk : k < T.m) (hu : p.u ≤ T.B k) (hs : s < p.u) (hp : T.A k s ≠ 0) : Jx p (k + 1) (T.pivot k s) := by
  have huw := u_w p
  have hm : k < p.lp.m := by rw [← h.1.rows.m]; exact hk
  exact ⟨⟨Tab.pivot_wf h.1.wf hk (by rw [h.1.rows.n]; omega) hp, h.2.feas h.1.feas hk hu s, h.1.rows.pivot hm hp, h.1.rows.offp h.1.off hm⟩, h.2.expel hk hu hs⟩
/-- What holds in the second phase. -/
def I2 (p : Prg) (c : List Rat) (S : Tab) : Prop := Inv p (cst p c) S ∧ Tab.Clean p.u S.m S
theorem I2.start (h : Jx p p.lp.m T) : I2 p c (priced T (cst p c)) := by
  have hc := h.2
  rw [← h.1.rows.m] at hc
  exact ⟨Inv.price cst_last h.1.wf h.1.feas h.1.rows, ⟨hc.zero, hc.row⟩⟩
theorem I2.step {r s : Nat} (h : I2 p c T) (hb : T.Bland p.u r s) : I2 p c (T.pivot r s) :=
  ⟨h.1.step (by rw [h.1.rows.n]; exact u_w p) hb, h.2.bland hb⟩
theorem mz_opt (hok : p.Ok) (hcl : c.length = p.free.length) (h : I2 p c T) (hn : ∀ j, j < p.u → 0 ≤ T.c j) :
    ChkOpt p c (vals (Lay.vec p.lay.pF p.lay.mF T.pt) p.lp.n) (vals (fun i => p.lay.sF i * (cst p c (p.lay.uF i) - T.c (p.lay.uF i))) p.lp.m) ∧ -(T.c p.w) = dotN p.free.length (fn c) (fn (vals (Lay.vec p.lay.pF p.lay.mF T.pt) p.lp.n)) := by
  have h1 := Tab.fin_opt (lay_ok hok) h.1.wf h.1.feas h.1.rows h.2 cst_ok h.1.off hn
  have h2 := CertOpt.congr (x' := fn (vals (Lay.vec p.lay.pF p.lay.mF T.pt) p.lp.n)) (y' := fn (vals (fun i => p.lay.sF i * (cst p c (p.lay.uF i) - T.c (p.lay.uF i))) p.lp.m)) (fun j hj => (fn_vals hj).symm) (fun i hi => (fn_vals hi).symm) h1
  refine ⟨⟨⟨hok, vals_len _ _, h2.feas⟩, hcl, vals_len _ _, h2⟩, ?_⟩
  rw [← Tab.fin_value (lay_ok hok) h.1.wf h.1.rows h.2 cst_ok h.1.off]
  exact dot_fn (n := p.lp.n) fun j hj => (fn_vals hj).symm
theorem mz_unb (hok : p.Ok) (hcl : c.length = p.free.length) (h : I2 p c T) {s : Nat} (hs : s < p.u) (hneg : T.c s < 0) (hA : ∀ i, i < T.m → T.A i s ≤ 0) :
    ChkUnb p c (vals (Lay.vec p.lay.pF p.lay.mF T.pt) p.lp.n) (vals (Lay.vec p.lay.pF p.lay.mF (T.dir s)) p.lp.n) := by
  have h1 := Tab.fin_unb (lay_ok hok) h.1.wf h.1.feas h.1.rows h.2 cst_ok h.1.off hs hneg hA
  have h2 := CertUnb.congr (x' := fn (vals (Lay.vec p.lay.pF p.lay.mF T.pt) p.lp.n)) (r' := fn (vals (Lay.vec p.lay.pF p.lay.mF (T.dir s)) p.lp.n)) (fun j hj => (fn_vals hj).symm) (fun j hj => (fn_vals hj).symm) h1
  exact ⟨⟨hok, vals_len _ _, h2.feas⟩, hcl, vals_len _ _, h2⟩
/-! ## sizes of points and rays -/
theorem pt_sz {N : Nat} (hW : T.WF) (hz : Sz N T) (h0 : 1 ≤ N) {j : Nat} (hj : j < T.n) : szQ (T.pt j) ≤ N := by
  by_cases h : ∃ i, i < T.m ∧ T.B i = j
  · obtain ⟨i, hi, rfl⟩ := h
    rw [Tab.pt_basis hW hi]; exact hz.A i hi _ (Nat.le_refl _)
  · rw [Tab.pt_zero hj (fun i hi e => absurd ⟨i, hi, e⟩ h)]
    exact Nat.le_trans (by decide) h0
theorem dir_sz {N : Nat} (hW : T.WF) (hz : Sz N T) (h0 : 1 ≤ N) {s j : Nat} (hs : s ≤ T.n) (hns : ∀ i, i < T.m → T.B i ≠ s) : szQ (T.dir s j) ≤ N := by
  unfold Tab.dir
  by_cases e : j = s
  · subst e
    rw [if_pos rfl, sumN_eq0 (fun i hi => by rw [if_neg (hns i hi)]), show (1 : Rat) - 0 = 1 by grind]
    exact Nat.le_trans (by decide) h0
  · rw [if_neg e]
    by_cases h : ∃ i, i < T.m ∧ T.B i = j
    · obtain ⟨i, hi, rfl⟩ := h
      rw [sumN_single hi _ (fun k hk hne => by rw [if_neg (fun e' => hne (hW.inj hk hi e'))]), if_pos rfl, show (0 : Rat) - T.A i s = -(T.A i s) by grind, szQ_neg]
      exact hz.A i hi s hs
    · rw [sumN_eq0 (fun i hi => by rw [if_neg (fun e' => h ⟨i, hi, e'⟩)]), show (0 : Rat) - 0 = 0 by grind]
      exact Nat.le_trans (by decide) h0
/-- A column that may enter is not in the basis. -/
theorem ray_out (hW : T.WF) {s : Nat} (hneg : T.c s < 0) : ∀ i, i < T.m → T.B i ≠ s := fun i hi e => by
  have := hW.zero i hi
  rw [e] at this; grind
end
/-! ## sizes of a whole run -/
/-- All numbers of a run have at most M limbs. -/
structure Fits (p : Prg) (c : List Rat) (M : Nat) : Prop where
  one : 1 ≤ M
  pn : ∀ j, szQ (pn p j) ≤ M
  cst : ∀ j, szQ (cst p c j) ≤ M
  tab : ∀ i, i < p.lp.m → ∀ j, szQ (p.tab0.A i j) ≤ M
  sz1 : ∀ S, Inv p (Eng.pn p) S → Sz M S
  sz2 : ∀ S, Inv p (Eng.cst p c) S → Sz M S
  pr1 : ∀ k, k ≤ p.lp.m → ∀ j, j ≤ p.w → szQ (prc (priced p.tab0 (Eng.pn p)) (Eng.pn p) k j) ≤ 2 * M
  pr2 : ∀ S, Inv p (Eng.pn p) S → ∀ k, k ≤ S.m → ∀ j, j ≤ S.n → szQ (prc S (Eng.cst p c) k j) ≤ 2 * M
section
variable {p : Prg} {l c : List Rat} {D0 f k : Nat}
theorem fit_of (hl : In l p) (hlc : ∀ j, j < p.lp.n → fn c j ∈ l) (hb : BIn D0 f p) (hk : Cin p k) : Fits p c (bits l k p.lp.m f) where
  one := by have := bitE_pos l k p.lp.m; unfold bits; omega
  pn j := cm_sz (pn_cm j) _ _ _
  cst j := cm_sz (cst_cm hlc j) _ _ _
  tab i hi j := by
    by_cases e : j = p.w
    · subst e
      refine Nat.le_trans (com_szQ (e := f) hb.pos (tab0_cb hb hi) hb.le (Nat.le_refl _)) ?_
      have := bitE_pos l k p.lp.m; unfold bits; omega
    · exact cm_sz (tab0_cm hl hi e) _ _ _
  sz1 S h := h.sz hl hb hk pn_last fun j _ => pn_cm j
  sz2 S h := h.sz hl hb hk cst_last fun j _ => cst_cm hlc j
  pr1 := price_sz (fun i hi => unit_lt p hi) rfl rfl ((Inv.base pn_last).bd hl hb hk pn_last fun j _ => pn_cm j) hb.pos hb.le fun j _ => pn_cm j
  pr2 S h := price_sz h.wf.lt h.rows.m h.rows.n (h.bd hl hb hk pn_last fun j _ => pn_cm j) hb.pos hb.le fun j _ => cst_cm hlc j
/-- The value and the vector of a last tableau. -/
theorem val_com {T : Tab} (hl : In l p) (hlc : ∀ j, j < p.lp.n → fn c j ∈ l) (hb : BIn D0 f p) (hk : Cin p k) (h : I2 p c T) :
    ∃ D, 0 < D ∧ D ≤ 2 ^ bitE l k p.lp.m ∧ Tab.Com (D * D0) (2 ^ (bitE l k p.lp.m + f)) (-(T.c p.w)) ∧ ∀ q, q ∈ vals (Lay.vec p.lay.pF p.lay.mF T.pt) p.lp.n → Tab.Com (D * D0) (2 ^ (bitE l k p.lp.m + f)) q := by
  obtain ⟨D, h1, h2, h3, h4⟩ := h.1.bd hl hb hk cst_last fun j _ => cst_cm hlc j
  have hp := bitE_pos l k p.lp.m
  have hn := h.1.rows.n
  have up : ∀ z, 2 ^ (bitE l k p.lp.m - 1 + z) ≤ 2 ^ (bitE l k p.lp.m + z) := fun z => Nat.pow_le_pow_right (by decide) (by omega)
  refine ⟨D, h1, Nat.le_trans h2 (up 0), ?_, fun q hq => ?_⟩
  · have h5 := h4 p.w (by omega)
    rw [← hn, Tab.lst_n, Tab.lst_n] at h5
    rw [← hn]
    exact (h5.mono (up f)).neg
  · have hpt : ∀ j, j < p.w → Tab.Com (D * D0) (2 ^ (bitE l k p.lp.m - 1 + f)) (T.pt j) := fun j hj => by
      by_cases hb : ∃ i, i < T.m ∧ T.B i = j
      · obtain ⟨i, hi, rfl⟩ := hb
        have h5 := h3 i hi p.w (by omega)
        rw [← hn, Tab.lst_n, Tab.lst_n] at h5
        rw [Tab.pt_basis h.1.wf hi]; exact h5
      · rw [Tab.pt_zero (by omega) (fun i hi e => absurd ⟨i, hi, e⟩ hb)]
        exact Tab.com_zero _ _
    unfold vals at hq
    obtain ⟨j, hj, rfl⟩ := List.mem_map.1 hq
    have hj := List.mem_range.1 hj
    have hm : Tab.Com (D * D0) (2 ^ (bitE l k p.lp.m - 1 + f)) (optv T.pt (p.lay.mF j)) := by
      rw [lay_mF hj]
      by_cases hf : p.lp.free j = true
      · rw [if_pos hf]
        have := mnz_lt p hj
        unfold mnz at this
        rw [if_pos hf] at this
        have := c1_u p
        have := u_w p
        exact hpt _ (by omega)
      · rw [if_neg hf]; exact Tab.com_zero _ _
    have h6 := (hpt _ (lay_tl.pw j hj)).sub hm
    refine h6.mono ?_
    rw [show bitE l k p.lp.m + f = (bitE l k p.lp.m - 1 + f) + 1 by omega, Nat.pow_succ]; omega
end
end Go.Eng
