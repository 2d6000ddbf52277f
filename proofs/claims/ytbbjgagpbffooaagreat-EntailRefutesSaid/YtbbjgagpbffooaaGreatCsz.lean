/- The sizes of the programs of entail. -/
import Derived.Test.YtbbjgagpbffooaaGreatA10
import Derived.Test.YtbbjgagpbffooaaGreatCmb
set_option linter.unusedVariables false
namespace Go.Eng
open Go.Proofs Num Lp
theorem log20 {x : Nat} (h : x ≤ 1048576) : x.log2 ≤ 20 := by
  by_cases h0 : x = 0
  · subst h0; decide
  · have := (Nat.log2_lt (n := x) (k := 21) h0).2 (by omega); omega
theorem wt_int {n : Int} (h : -1048576 ≤ n ∧ n ≤ 1048576) : Tab.wt (n : Rat) ≤ 22 := by
  unfold Tab.wt
  rw [Rat.num_intCast, Rat.den_intCast]
  have h1 := log20 (x := n.natAbs) (by omega)
  have h2 : Nat.log2 1 = 0 := by decide
  omega
theorem colc_none {fr : Nat → Bool} : ∀ {k : Nat}, (∀ j, j < k → fr j = false) → colc fr k = k
  | 0, _ => rfl
  | k + 1, h => by
    unfold colc
    rw [colc_none fun j hj => h j (by omega), h k (by omega)]; simp
theorem slc_eqs {rel : Nat → Int} {c : Nat} : ∀ {k : Nat}, (∀ i, i < k → rel i = 2) → slc rel c k = c
  | 0, _ => rfl
  | k + 1, h => by
    unfold slc
    rw [slc_eqs fun i hi => h i (by omega), if_pos (h k (by omega))]; rfl
/-- Small integers everywhere. -/
structure Ints (p : Prg) (c : List Rat) : Prop where
  row : ∀ r, r ∈ p.rows → (∀ q, q ∈ r.1 → ∃ n : Int, q = (n : Rat) ∧ -1048576 ≤ n ∧ n ≤ 1048576) ∧ ∃ n : Int, r.2.2 = (n : Rat) ∧ -1048576 ≤ n ∧ n ≤ 1048576
  vec : ∀ q, q ∈ c → ∃ n : Int, q = (n : Rat) ∧ -1048576 ≤ n ∧ n ≤ 1048576
theorem ints_fit {p : Prg} {c : List Rat} (h : Ints p c) {k a m : Nat} (hk : Cin p k) (hk7 : k ≤ 7) (hm : p.rows.length ≤ m) (ha : ∀ r, r ∈ p.rows → r.1.length ≤ a) (hc : c.length ≤ a) (hma : m * (a + 1) + a ≤ 1000) : ∃ M, Fits p c M ∧ M ≤ 99999998 := by
  have h1 : ∀ q, q ∈ nums p c → Tab.wt q ≤ 22 := fun q hq => by
    rcases List.mem_cons.1 hq with rfl | hq
    · decide
    · rcases List.mem_append.1 hq with hq | hq
      · obtain ⟨r, hr, hq⟩ := List.mem_flatMap.1 hq
        obtain ⟨k1, n, k2, k3⟩ := h.row r hr
        rcases List.mem_cons.1 hq with rfl | hq
        · rw [k2]; exact wt_int k3
        · obtain ⟨n, k2, k3⟩ := k1 q hq
          rw [k2]; exact wt_int k3
      · obtain ⟨n, k2, k3⟩ := h.vec q hq
        rw [k2]; exact wt_int k3
  have h2 := wts_len h1
  have h3 := flat_len ha
  have h3' : p.rows.length * (a + 1) ≤ m * (a + 1) := Nat.mul_le_mul_right _ hm
  have h4 : (nums p c).length ≤ 1001 := by
    simp only [nums, List.length_cons, List.length_append]; omega
  have h5 : Tab.wts (nums p c) ≤ 1001 * 22 := Nat.le_trans h2 (Nat.mul_le_mul_right _ h4)
  have h6 : p.lp.m ≤ 1000 := by
    have e : p.lp.m = p.rows.length := rfl
    have h9 : m * 1 ≤ m * (a + 1) := Nat.mul_le_mul_left _ (by omega)
    omega
  refine ⟨_, fit_of (D0 := Tab.dens (nums p c)) (f := 2 * Tab.wts (nums p c)) (nums_in p c) (nums_c p c) ⟨Tab.dens_pos _, Nat.le_trans (Tab.dens_le _) (Nat.pow_le_pow_right (by decide) (by omega)), fun i hi => Tab.com_mem (nums_row hi).2⟩ hk, ?_⟩
  unfold bits bitE
  have h7 := Nat.mul_le_mul (Nat.pow_le_pow_right (n := 2) (by decide) hk7) (show 4 * Tab.wts (nums p c) + p.lp.m + 1 ≤ 4 * (1001 * 22) + 1000 + 1 by omega)
  have h8 : 2 ^ 7 * (4 * (1001 * 22) + 1000 + 1) = 11403392 := by decide
  omega
section
variable {fs : List Lin} {vs : List Int} {g : Lin} {b : Int}
theorem cmb_mem {r : List Rat × Int × Rat} (h : r ∈ (cmbP fs vs g b).rows) : (∃ v, r = (fs.map (fun f => ((f.coef v : Int) : Rat)), (2 : Int), ((g.coef v : Int) : Rat))) ∨ r = (fs.map (fun f => ((f.c : Int) : Rat)), (1 : Int), (b : Rat)) := by
  simp only [cmbP, List.mem_append, List.mem_map, List.mem_singleton] at h
  rcases h with ⟨v, _, rfl⟩ | rfl
  · exact .inl ⟨v, rfl⟩
  · exact .inr rfl
theorem cmb_ints (hok : ∀ (i : Nat) (f : Lin), fs[i]? = some f → LinOk f) (hg : LinOk g) (hb : -1048576 ≤ b ∧ b ≤ 1048576) (k : Nat) : Ints (cmbP fs vs g b) (List.replicate k 0) := by
  refine ⟨fun r hr => ?_, fun q hq => ⟨0, (List.mem_replicate.1 hq).2, by omega, by omega⟩⟩
  have hm : ∀ f, f ∈ fs → LinOk f := fun f hf => by obtain ⟨i, hi⟩ := List.getElem?_of_mem hf; exact hok i f hi
  rcases cmb_mem hr with ⟨v, rfl⟩ | rfl
  · refine ⟨fun q hq => ?_, _, rfl, hg.coef_le v⟩
    obtain ⟨f, hf, rfl⟩ := List.mem_map.1 hq
    exact ⟨_, rfl, (hm f hf).coef_le v⟩
  · refine ⟨fun q hq => ?_, _, rfl, hb⟩
    obtain ⟨f, hf, rfl⟩ := List.mem_map.1 hq
    exact ⟨_, rfl, (hm f hf).const⟩
theorem cmb_cin (hf : fs.length ≤ 6) : Cin (cmbP fs vs g b) 7 := by
  refine .inr ?_
  have hm : (cmbP fs vs g b).lp.m = vs.length + 1 := by simp [Prg.lp, cmbP]
  have hn : (cmbP fs vs g b).lp.n = fs.length := by simp [Prg.lp, cmbP]
  have hfr : ∀ j, (cmbP fs vs g b).lp.free j = false := fun j => by
    simp only [Prg.lp, cmbP, List.getD, List.getElem?_replicate]
    split <;> rfl
  have hrel : ∀ i, i < vs.length → (cmbP fs vs g b).lp.rel i = 2 := fun i hi => by
    show ((cmbP fs vs g b).row i).2.1 = 2
    rw [cmb_row1 (List.getElem?_eq_getElem hi)]
  have h1 : (cmbP fs vs g b).c1 = fs.length := by
    show colc _ (cmbP fs vs g b).lp.n = _
    rw [colc_none fun j _ => hfr j, hn]
  have h2 : (cmbP fs vs g b).u ≤ fs.length + 1 := by
    show slc _ (cmbP fs vs g b).c1 (cmbP fs vs g b).lp.m ≤ _
    rw [hm, h1]
    unfold slc
    rw [slc_eqs hrel]
    split <;> omega
  have h3 := (unc_le (cmbP fs vs g b).lp.rel (cmbP fs vs g b).sgN (cmbP fs vs g b).u (cmbP fs vs g b).lp.m).1
  have e : (cmbP fs vs g b).w = unc (cmbP fs vs g b).lp.rel (cmbP fs vs g b).sgN (cmbP fs vs g b).u (cmbP fs vs g b).lp.m := rfl
  omega
theorem cmb_fit (hok : ∀ (i : Nat) (f : Lin), fs[i]? = some f → LinOk f) (hg : LinOk g) (hb : -1048576 ≤ b ∧ b ≤ 1048576) (hf : fs.length ≤ 6) (hv : vs.length ≤ 100) : ∃ M, Fits (cmbP fs vs g b) (List.replicate fs.length 0) M ∧ M ≤ 99999998 :=
  ints_fit (k := 7) (a := 6) (m := 101) (cmb_ints hok hg hb _) (cmb_cin hf) (Nat.le_refl _) (by simp [cmbP]; exact hv) (fun r hr => by
    rcases cmb_mem hr with ⟨v, rfl⟩ | rfl
    · rw [List.length_map]; exact hf
    · rw [List.length_map]; exact hf) (by rw [List.length_replicate]; exact hf) (by decide)
theorem min_fit (hok : ∀ (i : Nat) (f : Lin), fs[i]? = some f → LinOk f) (hg : LinOk g) (hf : fs.length ≤ 6) (hv : vs.length ≤ 100) : ∃ M, Fits (minP fs vs) (minC g vs) M ∧ M ≤ 99999998 := by
  have hm : ∀ f, f ∈ fs → LinOk f := fun f hf => by obtain ⟨i, hi⟩ := List.getElem?_of_mem hf; exact hok i f hi
  have hrow : ∀ r, r ∈ (minP fs vs).rows → ∃ f, f ∈ fs ∧ r = (vs.map (fun v => ((f.coef v : Int) : Rat)), (3 : Int), ((-f.c : Int) : Rat)) := fun r hr => by
    obtain ⟨f, h1, h2⟩ := List.mem_map.1 hr
    exact ⟨f, h1, h2.symm⟩
  refine ints_fit (k := 6) (a := 100) (m := 6) ⟨fun r hr => ?_, fun q hq => ?_⟩ (.inl ?_) (by omega) (by simp [minP]; exact hf) (fun r hr => ?_) (by simp [minC]; exact hv) (by decide)
  · obtain ⟨f, h1, rfl⟩ := hrow r hr
    refine ⟨fun q hq => ?_, _, rfl, by have := (hm f h1).const; omega⟩
    obtain ⟨v, _, rfl⟩ := List.mem_map.1 hq
    exact ⟨_, rfl, (hm f h1).coef_le v⟩
  · obtain ⟨v, _, rfl⟩ := List.mem_map.1 hq
    exact ⟨_, rfl, hg.coef_le v⟩
  · show (minP fs vs).rows.length ≤ 6
    simp [minP]; exact hf
  · obtain ⟨f, h1, rfl⟩ := hrow r hr
    rw [List.length_map]; exact hv
/-- A program without an objective. -/
theorem zero_chk {p : Prg} {k : Nat} {S : Soln} (h : Chk p (List.replicate k 0) S) : (S.status = 1 ∧ p.lp.Meets 1 (fn S.x) ∧ S.x.length = p.free.length) ∨ (S.status = 2 ∧ p.lp.IsInf) := by
  rcases h.sem with ⟨h1, _⟩ | ⟨h1, h2, _⟩ | ⟨h1, h2, _⟩
  · obtain ⟨_, h2, _⟩ := h.at1 h1
    exact .inl ⟨h1, h2.feas.meets, h2.feas.len⟩
  · exact .inr ⟨h1, h2⟩
  · obtain ⟨x, _, hlt⟩ := h2.2 0
    have h9 : dotN p.lp.n (fn (List.replicate k 0)) x = 0 := sumN_eq0 fun j _ => by rw [fn_rep]; exact Rat.zero_mul _
    rw [h9] at hlt
    exact absurd hlt (by decide)
end
end Go.Eng
