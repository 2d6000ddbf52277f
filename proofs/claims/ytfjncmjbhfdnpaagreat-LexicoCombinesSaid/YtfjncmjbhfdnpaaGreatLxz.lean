/- The sizes of the numbers of several levels (plain). -/
import Derived.Test.YtfjncmjbhfdnpaaGreatA10
import Derived.Test.YtfjncmjbhfdnpaaGreatLex
set_option linter.unusedVariables false
namespace Go.Eng
open Go.Proofs Num Lp
/-- The coefficients of a program and its objectives. -/
def coefs (p : Prg) (os : List (List Rat)) : List Rat := 0 :: (p.rows.flatMap (·.1) ++ os.flatten)
theorem fn_mem0 {l k : List Rat} (h : ∀ q, q ∈ l → q ∈ k) (h0 : 0 ∈ k) (j : Nat) : fn l j ∈ k := by
  by_cases hj : j < l.length
  · rw [fn_get (List.getElem?_eq_getElem hj)]; exact h _ (List.getElem_mem hj)
  · rw [fn_out (by omega)]; exact h0
section
variable {p : Prg} {os : List (List Rat)} {vs : List Rat}
theorem obj_in {o : List Rat} (ho : o ∈ os) (j : Nat) : fn o j ∈ coefs p os :=
  fn_mem0 (fun _ hq => List.mem_cons_of_mem _ (List.mem_append_right _ (List.mem_flatten.2 ⟨o, ho, hq⟩))) (List.mem_cons_self ..) j
theorem row_in {r : List Rat × Int × Rat} (hr : r ∈ p.rows) (j : Nat) : fn r.1 j ∈ coefs p os :=
  fn_mem0 (fun _ hq => List.mem_cons_of_mem _ (List.mem_append_left _ (List.mem_flatMap.2 ⟨r, hr, hq⟩))) (List.mem_cons_self ..) j
theorem ext_in : In (coefs p os) (extP p os vs) := fun i hi j _ => by
  have hi : i < (extP p os vs).rows.length := hi
  have h1 := List.getElem_mem hi
  show fn ((extP p os vs).row i).1 j ∈ _
  rw [Prg.row_get (List.getElem?_eq_getElem hi)]
  rcases ext_mem h1 with h2 | ⟨o, v, h2, _, e⟩
  · exact row_in h2 j
  · rw [e]; exact obj_in h2 j
theorem bin_ext {D0 f D1 E : Nat} {v : Rat} (hl : vs.length < os.length) (hb : BIn D0 f (extP p os vs)) (h1 : 0 < D1) (h2 : D1 ≤ 2 ^ E) (hv : Tab.Com (D1 * D0) (2 ^ (E + f)) v) : BIn (D1 * D0) (E + f) (extP p os (vs ++ [v])) := by
  refine ⟨Nat.mul_pos h1 hb.pos, by rw [Nat.pow_add]; exact Nat.mul_le_mul h2 hb.le, fun i hi => ?_⟩
  have hi : i < (extP p os (vs ++ [v])).rows.length := hi
  rw [ext_len (by rw [List.length_append, List.length_singleton]; omega), List.length_append, List.length_singleton] at hi
  show Tab.Com _ _ ((extP p os (vs ++ [v])).row i).2.2
  by_cases hlt : i < p.rows.length + vs.length
  · have e : (extP p os (vs ++ [v])).row i = (extP p os vs).row i := by
      by_cases h3 : i < p.rows.length
      · show ((extP p os (vs ++ [v])).rows).getD i _ = ((extP p os vs).rows).getD i _
        rw [List.getD, List.getD, ext_get_lt h3, ext_get_lt h3]
      · obtain ⟨k, rfl⟩ : ∃ k, i = p.rows.length + k := ⟨i - p.rows.length, by omega⟩
        have g1 : os[k]? = some (os[k]'(by omega)) := List.getElem?_eq_getElem (by omega)
        have g2 : vs[k]? = some (vs[k]'(by omega)) := List.getElem?_eq_getElem (by omega)
        rw [Prg.row_get (ext_get_ge g1 g2), Prg.row_get (ext_get_ge g1 (by rw [List.getElem?_append_left (by omega)]; exact g2))]
    rw [e]
    have h4 := com_up D1 (hb.b i (show i < (extP p os vs).rows.length by rw [ext_len (by omega)]; exact hlt))
    rw [Nat.mul_comm D1]
    refine h4.mono ?_
    rw [Nat.pow_add, Nat.mul_comm]
    exact Nat.mul_le_mul_right _ h2
  · obtain rfl : i = p.rows.length + vs.length := by omega
    have g1 : os[vs.length]? = some (os[vs.length]'hl) := List.getElem?_eq_getElem hl
    have g2 : (vs ++ [v])[vs.length]? = some v := by rw [List.getElem?_append_right (Nat.le_refl _), Nat.sub_self]; rfl
    rw [Prg.row_get (ext_get_ge g1 g2)]; exact hv
/-- Bounds over one denominator. -/
theorem bin_of (p : Prg) : BIn (Tab.dens (p.rows.map (·.2.2))) (2 * Tab.wts (p.rows.map (·.2.2))) p := by
  refine ⟨Tab.dens_pos _, Nat.le_trans (Tab.dens_le _) (Nat.pow_le_pow_right (by decide) (by omega)), fun i hi => Tab.com_mem ?_⟩
  have hi : i < p.rows.length := hi
  show (p.row i).2.2 ∈ _
  rw [Prg.row_get (List.getElem?_eq_getElem hi)]
  exact List.mem_map.2 ⟨_, List.getElem_mem hi, rfl⟩
/-- The numbers of all levels have at most so many bits. -/
structure LexSz (p : Prg) (os : List (List Rat)) (E f0 : Nat) : Prop where
  bin : ∃ D, BIn D f0 p
  lv : ∀ vs : List Rat, vs.length ≤ os.length → ∃ k, Cin (extP p os vs) k ∧ bitE (coefs p os) k (extP p os vs).lp.m ≤ E
  tot : f0 + (os.length + 1) * E ≤ 99999998
theorem LexSz.fit {E f0 D f : Nat} {o : List Rat} (h : LexSz p os E f0) (hl : vs.length ≤ os.length) (ho : o ∈ os ∨ ∀ j, fn o j = 0) (hb : BIn D f (extP p os vs)) : ∃ M, Fits (extP p os vs) o M ∧ M ≤ E + f := by
  obtain ⟨k, h1, h2⟩ := h.lv vs hl
  refine ⟨bits (coefs p os) k (extP p os vs).lp.m f, fit_of ext_in (fun j _ => ?_) hb h1, by unfold bits; omega⟩
  rcases ho with ho | ho
  · exact obj_in ho j
  · rw [ho j]; exact List.mem_cons_self ..
theorem LexSz.step {E f0 D f : Nat} {o : List Rat} {S : Soln} (h : LexSz p os E f0) (hl : vs.length < os.length) (ho : o ∈ os) (hb : BIn D f (extP p os vs)) (hS : Last (extP p os vs) o S) (hs : S.status = 1) : ∃ D', BIn D' (E + f) (extP p os (vs ++ [S.value])) := by
  obtain ⟨k, h1, h2⟩ := h.lv vs (by omega)
  obtain ⟨T, hT, e1, _⟩ := hS hs
  obtain ⟨D1, g1, g2, g3, _⟩ := val_com (l := coefs p os) ext_in (fun j _ => obj_in ho j) hb h1 hT
  refine ⟨D1 * D, bin_ext hl hb g1 (Nat.le_trans g2 (Nat.pow_le_pow_right (by decide) h2)) ?_⟩
  rw [e1]
  exact g3.mono (Nat.pow_le_pow_right (by decide) (by omega))
end
end Go.Eng
