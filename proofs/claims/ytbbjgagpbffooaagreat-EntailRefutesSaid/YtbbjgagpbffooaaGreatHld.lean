/- Assignments: plain. -/
import Derived.Test.YtbbjgagpbffooaaGreatA10
import Derived.Test.YtbbjgagpbffooaaGreatLnd2
set_option linter.unusedVariables false
namespace Lp
def asg : List Int → List Rat → Int → Rat
  | v :: vs, y :: ys, x => if v = x then y else asg vs ys x
  | _, _, _ => 0
theorem asg_at : ∀ {vs : List Int} {ys : List Rat} {i : Nat} {x : Int} {q : Rat}, Asc vs → vs[i]? = some x → ys[i]? = some q → asg vs ys x = q
  | [], _, _, _, _, _, h, _ => by simp at h
  | v :: vs, [], _, _, _, _, _, h => by simp at h
  | v :: vs, y :: ys, 0, x, q, _, h, k => by cases h; cases k; simp [asg]
  | v :: vs, y :: ys, i + 1, x, q, ha, h, k => by
    have h1 := List.pairwise_cons.1 ha
    have h' : vs[i]? = some x := by simpa using h
    have h2 := h1.1 x (List.mem_of_getElem? h')
    rw [asg, if_neg (by omega)]
    exact asg_at h1.2 h' (by simpa using k)
theorem asg_mem : ∀ {vs : List Int} {ys : List Rat} (x : Int), asg vs ys x = 0 ∨ asg vs ys x ∈ ys
  | [], _, _ => .inl (by simp [asg])
  | _ :: _, [], _ => .inl (by simp [asg])
  | v :: vs, y :: ys, x => by
    rw [asg]
    split
    · exact .inr (by simp)
    · exact (asg_mem (vs := vs) (ys := ys) x).imp id fun h => by simp [h]
theorem evalT_snoc (a : Int → Rat) (t : Int × Int) : ∀ l : List (Int × Int), evalT a (l ++ [t]) = evalT a l + ((t.2 : Int) : Rat) * a t.1
  | [] => by simp only [List.nil_append, evalT]; grind
  | u :: l => by
    rw [List.cons_append, evalT, evalT, evalT_snoc a t l]; grind
theorem evalT_take (a : Int → Rat) {l : List (Int × Int)} {k : Nat} {t : Int × Int} (h : l[k]? = some t) : evalT a (l.take (k + 1)) = evalT a (l.take k) + ((t.2 : Int) : Rat) * a t.1 := by
  rw [List.take_add_one, h]; exact evalT_snoc a t _
structure HoldsE (fs : List Lin) (vs : List Int) (ys : List Rat) : Prop where
  ok : FactsOk fs
  len : vs.length = ys.length
  asc : Asc vs
  all : ∀ (i : Nat) (f : Lin), fs[i]? = some f → (∀ (k : Nat) (t : Int × Int), f.ts[k]? = some t → t.1 ∈ vs) ∧ 0 ≤ f.eval (asg vs ys)
theorem asc_adj : ∀ {l : List Int}, (∀ (i : Nat) (a b : Int), l[i]? = some a → l[i + 1]? = some b → a < b) → Asc l
  | [], _ => List.Pairwise.nil
  | [t], _ => by simp [Asc]
  | t :: u :: l, h => by
    have ih := asc_adj (l := u :: l) fun i a b h1 h2 => h (i + 1) a b (by simpa using h1) (by simpa using h2)
    have h0 := h 0 t u rfl rfl
    refine List.pairwise_cons.2 ⟨fun v hv => ?_, ih⟩
    rcases List.mem_cons.1 hv with rfl | hv
    · exact h0
    · have := (List.pairwise_cons.1 ih).1 v hv; omega
theorem adj_asc {l : List Int} (h : Asc l) {i : Nat} {a b : Int} (h1 : l[i]? = some a) (h2 : l[i + 1]? = some b) : a < b := by
  have k1 := List.getElem?_eq_some_iff.1 h1
  have k2 := List.getElem?_eq_some_iff.1 h2
  have := List.pairwise_iff_getElem.1 h i (i + 1) k1.1 k2.1 (by omega)
  rw [k1.2, k2.2] at this; exact this
end Lp
namespace Go.Eng
open Lp Num
theorem evalT_sz {a : Int → Rat} {M : Nat} (ha : ∀ x, szQ (a x) ≤ M) : ∀ {l : List (Int × Int)}, (∀ t, t ∈ l → -1048576 ≤ t.2 ∧ t.2 ≤ 1048576) → szQ (evalT a l) ≤ l.length * (M + 2) + 1
  | [], _ => by rw [evalT]; simp; decide
  | t :: l, h => by
    have ih := evalT_sz ha (l := l) fun u hu => h u (by simp [hu])
    have h1 := szQ_int (h t (by simp))
    have h2 := szQ_mul ((t.2 : Int) : Rat) (a t.1)
    have h3 := szQ_add (((t.2 : Int) : Rat) * a t.1) (evalT a l)
    have h4 := ha t.1
    rw [evalT, List.length_cons, Nat.add_mul]; omega
theorem lin_sz {vs : List Int} {ys : List Rat} {N : Nat} (hy : ∀ q, q ∈ ys → szQ q ≤ N + 2) (hN : N ≤ 400000000) {f : Lin} (hf : LinOk f) (k : Nat) : szQ (((f.c : Int) : Rat) + evalT (asg vs ys) (f.ts.take k)) ≤ 900000000000 := by
  have ha : ∀ x, szQ (asg vs ys x) ≤ N + 2 := fun x => by
    rcases asg_mem (vs := vs) (ys := ys) x with h | h
    · rw [h]; exact Nat.le_trans (show szQ 0 ≤ 1 by decide) (by omega)
    · exact hy _ h
  have h1 := evalT_sz ha (l := f.ts.take k) fun t ht => by
    obtain ⟨i, hi⟩ := List.getElem?_of_mem (List.mem_of_mem_take ht)
    have := hf.term i t hi; omega
  have h2 := szQ_int hf.const
  have h3 := szQ_add ((f.c : Int) : Rat) (evalT (asg vs ys) (f.ts.take k))
  have h4 : (f.ts.take k).length ≤ 16 := by rw [List.length_take]; have := hf.len; omega
  have h5 : (f.ts.take k).length * (N + 2 + 2) ≤ 16 * (N + 2 + 2) := Nat.mul_le_mul_right _ h4
  omega
theorem eval_all {f : Lin} {a : Int → Rat} : ((f.c : Int) : Rat) + evalT a (f.ts.take f.ts.length) = f.eval a := by rw [List.take_length]; rfl
end Go.Eng
