/- What follows from more facts, sums, chains: plain. -/
import Derived.Test.YtbbjgagpbffooaaGreatA10
import Derived.Test.YtbbjgagpbffooaaGreatEnt
set_option linter.unusedVariables false
namespace Lp
/-- A weighted sum over forms. -/
def wsum (fs : List Lin) (x : Nat → Rat) (w : Lin → Rat) : Rat := sumN fs.length (fun i => x i * w (nth fs i))
theorem comb_ws (fs : List Lin) (x : Nat → Rat) (v : Int) : comb fs x v = wsum fs x (fun f => ((f.coef v : Int) : Rat)) := rfl
theorem combC_ws (fs : List Lin) (x : Nat → Rat) : combC fs x = wsum fs x (fun f => ((f.c : Int) : Rat)) := rfl
theorem nth_mem {fs : List Lin} {i : Nat} (h : i < fs.length) : nth fs i ∈ fs := List.mem_of_getElem? (nth_some h)
theorem sub_mult {fs ks : List Lin} (hs : ∀ f, f ∈ fs → f ∈ ks) (x : Nat → Rat) : ∃ y : Nat → Rat, (NonN fs.length x → NonN ks.length y) ∧ ∀ w, wsum ks y w = wsum fs x w := by
  have h0 : ∀ i : Nat, ∃ j : Nat, i < fs.length → j < ks.length ∧ nth ks j = nth fs i := fun i => by
    by_cases hi : i < fs.length
    · obtain ⟨j, hj⟩ := List.getElem?_of_mem (hs _ (nth_mem hi))
      exact ⟨j, fun _ => ⟨(List.getElem?_eq_some_iff.1 hj).1, nth_get hj⟩⟩
    · exact ⟨0, fun h => absurd h hi⟩
  obtain ⟨J, hJ⟩ := Classical.axiomOfChoice h0
  refine ⟨fun j => sumN fs.length (fun i => if J i = j then x i else 0), fun hx j _ => sumN_nonneg fun i hi => by split; exact hx i hi; exact Rat.le_refl, fun w => ?_⟩
  unfold wsum
  have h1 : ∀ j, j < ks.length → sumN fs.length (fun i => if J i = j then x i else 0) * w (nth ks j) = sumN fs.length (fun i => (if J i = j then x i else 0) * w (nth ks j)) := fun j _ => (sumN_mul' _ _ _).symm
  rw [sumN_congr h1, sumN_comm]
  refine sumN_congr fun i hi => ?_
  obtain ⟨h2, h3⟩ := hJ i hi
  rw [sumN_single h2 _ fun j _ hne => by rw [if_neg (fun e => hne e.symm)]; exact Rat.zero_mul _, if_pos rfl, h3]
theorem Imp.sub {fs ks : List Lin} {g : Lin} (h : Imp fs g) (hs : ∀ f, f ∈ fs → f ∈ ks) : Imp ks g := by
  rcases h with ⟨x, h⟩ | ⟨x, h⟩
  · obtain ⟨y, h1, h2⟩ := sub_mult hs x
    exact .inl ⟨y, h1 h.pos, fun v => by rw [comb_ws, h2, ← comb_ws]; exact h.coef v, by rw [combC_ws, h2, ← combC_ws]; exact h.const⟩
  · obtain ⟨y, h1, h2⟩ := sub_mult hs x
    exact .inr ⟨y, h1 h.pos, fun v => by rw [comb_ws, h2, ← comb_ws]; exact h.coef v, by rw [combC_ws, h2, ← combC_ws]; exact h.const⟩
/-- Consequences of consequences. -/
theorem chain_mult {fs ms : List Lin} (hm : ∀ i, i < ms.length → ∃ x, Ent fs (nth ms i) x) {y : Nat → Rat} (hy : NonN ms.length y) : ∃ z, NonN fs.length z ∧ (∀ v, comb fs z v = comb ms y v) ∧ combC fs z ≤ combC ms y := by
  have h0 : ∀ i : Nat, ∃ x : Nat → Rat, i < ms.length → Ent fs (nth ms i) x := fun i => by
    by_cases hi : i < ms.length
    · obtain ⟨x, hx⟩ := hm i hi; exact ⟨x, fun _ => hx⟩
    · exact ⟨fun _ => 0, fun h => absurd h hi⟩
  obtain ⟨X, hX⟩ := Classical.axiomOfChoice h0
  have h1 : ∀ w : Lin → Rat, wsum fs (fun i => sumN ms.length (fun k => y k * X k i)) w = sumN ms.length (fun k => y k * wsum fs (X k) w) := fun w => by
    unfold wsum
    have h2 : ∀ i, i < fs.length → sumN ms.length (fun k => y k * X k i) * w (nth fs i) = sumN ms.length (fun k => y k * X k i * w (nth fs i)) := fun i _ => (sumN_mul' _ _ _).symm
    rw [sumN_congr h2, sumN_comm]
    refine sumN_congr fun k _ => ?_
    rw [← sumN_mul]
    exact sumN_congr fun i _ => by grind
  refine ⟨fun i => sumN ms.length (fun k => y k * X k i), fun i hi => sumN_nonneg fun k hk => Rat.mul_nonneg (hy k hk) ((hX k hk).pos i hi), fun v => ?_, ?_⟩
  · rw [comb_ws, h1]
    exact sumN_congr fun k hk => by rw [← comb_ws, (hX k hk).coef]
  · rw [combC_ws, h1]
    exact sumN_le fun k hk => by
      rw [← combC_ws]
      exact Rat.mul_le_mul_of_nonneg_left (hX k hk).const (hy k hk)
theorem Imp.chain {fs ms : List Lin} {g : Lin} (hm : ∀ i, i < ms.length → Imp fs (nth ms i)) (h : Imp ms g) : Imp fs g := by
  by_cases hr : ∃ x, Ref fs x
  · exact .inr hr
  have hm' : ∀ i, i < ms.length → ∃ x, Ent fs (nth ms i) x := fun i hi => (hm i hi).elim id fun h => absurd h hr
  rcases h with ⟨y, h⟩ | ⟨y, h⟩
  · obtain ⟨z, h1, h2, h3⟩ := chain_mult hm' h.pos
    exact .inl ⟨z, h1, fun v => by rw [h2]; exact h.coef v, Rat.le_trans h3 h.const⟩
  · obtain ⟨z, h1, h2, h3⟩ := chain_mult hm' h.pos
    exact .inr ⟨z, h1, fun v => by rw [h2]; exact h.coef v, by have := h.const; grind⟩
/-! ## the sum of two forms -/
def pick (h : Int → Int) (v : Int) : Option (Int × Int) := if h v = 0 then none else some (v, h v)
theorem coefT_pick (h : Int → Int) (u : Int) : ∀ l : List Int, coefT (l.filterMap (pick h)) u = if u ∈ l then h u else 0
  | [] => rfl
  | t :: l => by
    have ih := coefT_pick h u l
    rw [List.filterMap_cons]
    unfold pick at ih ⊢
    by_cases h0 : h t = 0
    · simp only [if_pos h0]
      rw [ih]
      by_cases e : u = t
      · subst e; simp [h0]
      · simp [e]
    · simp only [if_neg h0, coefT]
      rw [ih]
      by_cases e : t = u
      · subst e; simp
      · have e' : ¬ u = t := fun k => e k.symm
        simp [e, e']
def plusL (a b : Lin) : Lin := ⟨a.c + b.c, (ment [a, b]).filterMap (pick (fun v => a.coef v + b.coef v))⟩
theorem coef_plus (a b : Lin) (v : Int) : (plusL a b).coef v = a.coef v + b.coef v := by
  unfold Lin.coef plusL
  rw [coefT_pick]
  split
  · rfl
  · rename_i h
    have h1 : a.coef v = 0 := coef_out fun hm => h (mem_ment.2 ⟨a, by simp, hm⟩)
    have h2 : b.coef v = 0 := coef_out fun hm => h (mem_ment.2 ⟨b, by simp, hm⟩)
    unfold Lin.coef at h1 h2
    omega
theorem Imp.plus {fs : List Lin} {a b : Lin} (ha : Imp fs a) (hb : Imp fs b) : Imp fs (plusL a b) := by
  rcases ha with ⟨x, ha⟩ | h
  · rcases hb with ⟨y, hb⟩ | h
    · refine .inl ⟨fun i => x i + y i, fun i hi => Rat.add_nonneg (ha.pos i hi) (hb.pos i hi), fun v => ?_, ?_⟩
      · rw [comb_add, ha.coef, hb.coef, coef_plus, Rat.intCast_add]
      · rw [combC_add]
        show _ ≤ ((a.c + b.c : Int) : Rat)
        rw [Rat.intCast_add]
        have h1 := ha.const
        have h2 := hb.const
        grind
    · exact .inr h
  · exact .inr h
theorem wsum_add1 {fs : List Lin} {i : Nat} (hi : i < fs.length) (x : Nat → Rat) (w : Lin → Rat) : wsum fs (fun k => x k + if k = i then 1 else 0) w = wsum fs x w + w (nth fs i) := by
  unfold wsum
  have h1 : ∀ k, k < fs.length → (x k + if k = i then 1 else 0) * w (nth fs k) = x k * w (nth fs k) + (if k = i then w (nth fs k) else 0) := fun k _ => by
    split <;> grind
  rw [sumN_congr h1, sumN_add, sumN_ite hi]
end Lp
