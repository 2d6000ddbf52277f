/- law23.spoilt: a result that is changed in one place is some result again. -/
import Derived.Test.YtfjncmjbhfdnpaaGreatA10
import Derived.Test.YtfjncmjbhfdnpaaGreatLw9
import Derived.Test.YtfjncmjbhfdnpaaGreatSpo
import Derived.Test.YtfjncmjbhfdnpaaGreatPlc
import Derived.Test.YtfjncmjbhfdnpaaGreatEng16
set_option linter.unusedVariables false
namespace Go.Eng
open Go.Proofs Num Lp
theorem Own.slot {H : Heap} {v : Value} {e sz n : Nat} {xs : List Value} (h : Own H v e sz n xs) (hn : 0 < n) : ∃ g c, v = .slice (some ⟨g, 0, none⟩) n c ∧ H g = some ⟨xs, c * sz, e, true⟩ ∧ n ≤ c ∧ c ≤ maxLen := by
  rcases h.2 with ⟨_, h1⟩ | h1
  · omega
  · exact h1
/-- A copy of a slice. -/
theorem vco_cpy {P : Program} {n : Nat} {all : Array Oper} {md : Mode} {r : List Oper} {s : St} {H : Heap} {K : St → Heap → Prop} {dst : Option Nat} {ty : TypeId} {pos : String} {after : Array _} {gd : Option (Nat × Bool)}
    {α : Type} {Q : Heap → List Value → α → Prop} {t e sz bytes : Nat} {x y : Operand} {z w : Value} {k : List α} (gs : List Nat) (up : Up Q) (one : One Q) (hz : 0 < sz) (ht : P.underlying t = some (.slice e)) (he : ElT P e sz z bytes) (hx : ev s x = some (.slice none 0 0)) (hy : ev s y = some w)
    (hl : ∀ q, q ∈ gs → H q ≠ none) (hs : SlV Q sz (rem H gs) w k) (hb : k.length * bytes ≤ 140737488355328) (hml : k.length ≤ 9223372036854775807)
    (hk : ∀ v' H' ys, GroX gs H Q e sz H' v' k ys → VCO P n all md r (putO s dst (.val v')) H' K) (hg : gdB all s gd = some true := by rfl) (nb : md.nb s dst = true := by rfl) : VCO P n all md (⟨dst, .call ⟨.builtin .append, #[x, y], #[t, t]⟩, ty, pos, after, gd⟩ :: r) s H K := by
  obtain ⟨A, c, news, rfl, h1, h2, h3⟩ := hs
  refine vco_append (m := 0) (xs := []) ht he hx hy (own_nil H e sz) (h2.le (rem_le _ _)) h3.len (h3.ones one hz) (by rw [Nat.zero_add]; exact hb) (by rw [Nat.zero_add]; exact hml) (fun v' H' ha => ?_) hg nb
  have h0 : GroX gs H Q e sz H (.slice none 0 0) [] [] := groX_nil hl
  exact hk v' H' _ (h0.append up (by rw [List.length_nil]) ha (by rw [blk_nil, List.append_nil]; exact h3))
end Go.Eng
