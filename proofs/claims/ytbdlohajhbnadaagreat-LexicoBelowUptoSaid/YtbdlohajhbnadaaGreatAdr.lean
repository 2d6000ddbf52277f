/- A program with one more row (plain). -/
import Derived.Test.YtbdlohajhbnadaaGreatA10
set_option linter.unusedVariables false
namespace Go.Eng
open Lp
/-- A program with one more row. -/
def addR (p : Prg) (r : List Rat × Int × Rat) : Prg := ⟨p.free, p.rows ++ [r]⟩
theorem addR_meets {p : Prg} {r : List Rat × Int × Rat} {t : Rat} {x : Nat → Rat} (h : (addR p r).lp.Meets t x) : p.lp.Meets t x := by
  refine ⟨h.1, fun i hi => ?_⟩
  have hi2 : i < p.rows.length := hi
  have h1 := h.2 i (show i < (p.rows ++ [r]).length by rw [List.length_append]; omega)
  have e : (addR p r).row i = p.row i := by
    show (p.rows ++ [r]).getD i _ = p.rows.getD i _
    rw [List.getD, List.getD, List.getElem?_append_left hi2]
  have e1 : (addR p r).lp.rel i = p.lp.rel i := by show ((addR p r).row i).2.1 = (p.row i).2.1; rw [e]
  have e2 : (addR p r).lp.a i = p.lp.a i := by show fn ((addR p r).row i).1 = fn (p.row i).1; rw [e]
  have e3 : (addR p r).lp.b i = p.lp.b i := by show ((addR p r).row i).2.2 = (p.row i).2.2; rw [e]
  rw [e1, e2, e3] at h1
  exact h1
end Go.Eng
