/- Linear forms in memory. -/
import Derived.Test.YtbbjgagpbffooaaGreatA10
import Derived.Test.YtbbjgagpbffooaaGreatEnt2
import Derived.Test.YtbbjgagpbffooaaGreatCat
import Derived.Test.YtbbjgagpbffooaaGreatEng15
import Derived.Test.YtbbjgagpbffooaaGreatLx0
import Derived.Test.YtbbjgagpbffooaaGreatEng16
set_option linter.unusedVariables false
namespace Go.Eng
open Go.Proofs Num Lp
def TermP (_ : Heap) (vs : List Value) (t : Int × Int) : Prop := vs = [.int .i64 t.1, .int .i64 t.2]
theorem termUp : Up TermP := fun _ _ _ _ _ h => h
def FormP (H : Heap) (vs : List Value) (f : Lin) : Prop := ∃ A c, vs = [.int .i64 f.c, .slice A f.ts.length c] ∧ SlV TermP 2 H (.slice A f.ts.length c) f.ts
theorem formUp : Up FormP := fun _ _ _ _ hl ⟨A, c, h1, h2⟩ => ⟨A, c, h1, h2.le termUp hl⟩
theorem oneForm : One FormP := fun _ vs f ⟨A, c, h, _⟩ u hu => by
  subst h
  simp only [List.mem_cons, List.not_mem_nil, or_false] at hu
  rcases hu with rfl | rfl <;> rfl
theorem oneInt : One IntP := fun _ vs z h u hu => by
  have h : vs = [.int .i64 z] := h
  subst h
  rw [List.mem_singleton] at hu; rw [hu]; rfl
/-- Forms; integers. -/
abbrev FmV (H : Heap) (v : Value) (fs : List Lin) : Prop := SlV FormP 2 H v fs
section
variable {H : Heap} {xs : List Value} {i : Nat}
theorem term_get {l : List (Int × Int)} {t : Int × Int} (h : Els (TermP H) 2 xs l) (hi : l[i]? = some t) : ∀ (j : Nat) (u : Value), [.int .i64 t.1, .int .i64 t.2][j]? = some u → xs[i * 2 + j]? = some u := fun j u hu => by
  have h1 : seg xs i 2 = [.int .i64 t.1, .int .i64 t.2] := h.at_ i t hi
  exact seg_get (by rw [h1]; exact hu)
theorem form_get {fs : List Lin} {f : Lin} (h : Els (FormP H) 2 xs fs) (hi : fs[i]? = some f) : ∃ A c, SlV TermP 2 H (.slice A f.ts.length c) f.ts ∧ ∀ (j : Nat) (u : Value), [.int .i64 f.c, .slice A f.ts.length c][j]? = some u → xs[i * 2 + j]? = some u := by
  obtain ⟨A, c, h1, h2⟩ := h.at_ i f hi
  exact ⟨A, c, h2, fun j u hu => seg_get (by rw [h1]; exact hu)⟩
theorem int_get {l : List Int} {z : Int} (h : Els (IntP H) 1 xs l) (hi : l[i]? = some z) : xs[i]? = some (.int .i64 z) := by
  obtain ⟨v, h1, h2⟩ := h.one hi
  have h2 : [v] = [.int .i64 z] := h2
  cases h2; exact h1
end
theorem Fn.bt {P : Program} {k : FuncId} {args : Array Value} {H : Heap} {b : Bool} (h : Fn P k args H (RetE H (.bool b))) (e : b = true) : Fn P k args H (RetE H (.bool true)) := by subst e; exact h
theorem Fn.bf {P : Program} {k : FuncId} {args : Array Value} {H : Heap} {b : Bool} (h : Fn P k args H (RetE H (.bool b))) (e : b = false) : Fn P k args H (RetE H (.bool false)) := by subst e; exact h
theorem take_allVars {fs : List Lin} {i : Nat} {f : Lin} (h : fs[i]? = some f) : allVars (fs.take (i + 1)) = allVars (fs.take i) ++ f.vars := by
  rw [take_snoc h]; simp [allVars]
theorem toNat_pred {i : Nat} (h : 0 < i) : ((i : Int) - 1).toNat = i - 1 := by omega
/-- Like Gro.call, but of a slice that is known. -/
theorem lins_len {fs : List Lin} {k : Nat} (h : ∀ f, f ∈ fs → f.ts.length ≤ k) (i : Nat) : (allVars (fs.take i)).length ≤ fs.length * k := by
  have h1 := allVars_len (fs := fs.take i) (k := k) fun f hf => h f (List.mem_of_mem_take hf)
  have h2 : (fs.take i).length ≤ fs.length := by rw [List.length_take]; omega
  exact Nat.le_trans h1 (Nat.mul_le_mul_right _ h2)
end Go.Eng
