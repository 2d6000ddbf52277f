/- Two slices that grow by append, over a heap that stays. -/
import Derived.Test.YtbbjgagpbffooaaGreatA10
set_option linter.unusedVariables false
namespace Go.Eng
open Go.Proofs Num Lp
theorem rem_sub {H : Heap} {a b : List Nat} (h : ∀ q, q ∈ a → q ∈ b) : Heap.le (rem H b) (rem H a) := fun q en hq => by
  by_cases hm : q ∈ b
  · rw [rem_in hm] at hq; cases hq
  · rw [rem_out hm] at hq
    exact ⟨en, by rw [rem_out (fun h' => hm (h q h'))]; exact hq, .refl _⟩
section
variable {α β : Type} {P : Heap → List Value → α → Prop} {e sz : Nat} {Q : Heap → List Value → β → Prop} {e' sz' : Nat} {Hb H H' : Heap} {v v' u u' : Value} {l : List α} {xs : List Value} {k : List β} {ys : List Value}
end
end Go.Eng
