/- Arguments that are linear forms, lists of them, lists of integers. -/
import Derived.Test.YtbbjgagpbffooaaGreatA10
import Derived.Test.YtbbjgagpbffooaaGreatBr2
import Derived.Test.YtbbjgagpbffooaaGreatLnd
set_option linter.unusedVariables false
namespace Go.Eng
open Go.Proofs Num Lp
section
variable {Hy : Type} {enc : TypeId × Value → Hy} {w : World} {spare : Nat → Bool} {held : Bool}
theorem readTerms {n : Nat} {cs : List Value} {x : DataW Hy × List MemPlace} (h : DataW.trod enc Tryz.prog w 0 spare held n 23 cs = some x) : ∃ v l, cs = [v] ∧ SlV TermP 2 (heapOf w) v l :=
  let ⟨v, l, h1, h2, _⟩ := trod_slV (Q := TermP) Tryz.underlying23 (by kernel_rfl) (by decide) (fun _ cs _ hl h => by
    match cs, hl with
    | [a, b], _ =>
      obtain ⟨y0, y1, m, _, _, h0, h1⟩ := ChangeShapes.trod_struct2 Tryz.underlying51 h
      have c0 : Tryz.prog.cellsOf 3 = 1 := by kernel_rfl
      have c1 : Tryz.prog.cellsOf 2 = 1 := by kernel_rfl
      obtain ⟨z0, k0, _⟩ := DataW.trod_int Tryz.underlying3 h0
      obtain ⟨z1, k1, _⟩ := DataW.trod_int Tryz.underlying2 h1
      simp only [c0, c1] at k0 k1
      simp at k0 k1
      subst k0 k1
      exact ⟨(z0, z1), rfl⟩) h
  ⟨v, l, h1, h2⟩
theorem readForm {n : Nat} {cs : List Value} {x : DataW Hy × List MemPlace} (h : DataW.trod enc Tryz.prog w 0 spare held n 25 cs = some x) (hcs : cs.length = 2) : ∃ f, FormP (heapOf w) cs f := by
  match cs, hcs with
  | [a, b], _ =>
    obtain ⟨y0, y1, m, _, _, h0, h1⟩ := ChangeShapes.trod_struct2 Tryz.underlying25 h
    have c0 : Tryz.prog.cellsOf 2 = 1 := by kernel_rfl
    have c1 : Tryz.prog.cellsOf 23 = 1 := by kernel_rfl
    obtain ⟨z0, k0, _⟩ := DataW.trod_int Tryz.underlying2 h0
    obtain ⟨v, l, k1, k2⟩ := readTerms h1
    simp only [c0, c1] at k0 k1
    simp at k0 k1
    subst k0 k1
    obtain ⟨A, c, _, rfl, _⟩ := id k2
    exact ⟨⟨z0, l⟩, A, c, rfl, k2⟩
set_option maxRecDepth 100000 in
theorem readForms {v : Value} {d : DataW Hy} {ps : List MemPlace} {b0 : Nat} {rr : Reach} (hv : Value.okWide Tryz.prog w rr b0 22 v) (h : DataW.Trod enc Tryz.prog w 0 spare held 22 v d ps) : ∃ fs, FmV (heapOf w) v fs ∧ SlD d fs.length := by
  obtain ⟨a, len, cap, rfl⟩ := WideShapes.okWide_slice Tryz.underlying22 hv
  obtain ⟨fuel, hf⟩ := h
  obtain ⟨v', ls, k0, k1, _⟩ := trod_slV (Q := FormP) Tryz.underlying22 (by kernel_rfl) (by decide) (fun _ cs _ hl h => readForm h hl) hf
  simp [Value.cells] at k0
  subst k0
  refine ⟨ls, k1, ?_⟩
  obtain ⟨A, c, xs, e, _⟩ := id k1
  cases e
  exact trod_len Tryz.underlying22 (by simpa [Value.cells] using hf)
end
end Go.Eng
