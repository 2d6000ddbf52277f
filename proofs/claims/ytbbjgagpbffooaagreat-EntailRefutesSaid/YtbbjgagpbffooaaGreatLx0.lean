/- A new empty slice that grows. -/
import Derived.Test.YtbbjgagpbffooaaGreatA10
set_option linter.unusedVariables false
namespace Go.Eng
open Go.Proofs Num Lp
theorem gro_new0 {α : Type} {P : Heap → List Value → α → Prop} {e sz : Nat} {H : Heap} {g : Nat} (hg : H g = none) : Gro P e sz H (ins H g (whole [] e)) (.slice (some ⟨g, 0, none⟩) 0 0) [] [] := by
  refine ⟨⟨by simp, .inr ⟨g, 0, rfl, by rw [ins_same]; simp [whole], Nat.le_refl _, Nat.zero_le _⟩⟩, els_nil, ?_⟩
  show Heap.le H (rem _ [g])
  rw [rem_ins_new _ hg, rem_nil]; exact .refl _
end Go.Eng
