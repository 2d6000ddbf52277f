/- Two slices that grow by append, over a heap that stays. -/
import Derived.Test.YtfjncmjbhfdnpaaGreatA10
set_option linter.unusedVariables false
namespace Go.Eng
open Go.Proofs Num Lp
structure Gro2 {α β : Type} (P : Heap → List Value → α → Prop) (e sz : Nat) (Q : Heap → List Value → β → Prop) (e' sz' : Nat) (Hb H : Heap) (v : Value) (l : List α) (xs : List Value) (u : Value) (k : List β) (ys : List Value) : Prop where
  own : Own H v e sz l.length xs
  own' : Own H u e' sz' k.length ys
  els : Els (P (rem H (blk v ++ blk u))) sz xs l
  els' : Els (Q (rem H (blk v ++ blk u))) sz' ys k
  base : Heap.le Hb (rem H (blk v ++ blk u))
  apart : ∀ q, q ∈ blk v → ¬ q ∈ blk u
theorem rem_swap (H : Heap) (a b : List Nat) : rem H (a ++ b) = rem H (b ++ a) := by
  funext q
  unfold rem
  simp only [List.mem_append, Or.comm]
theorem rem_sub {H : Heap} {a b : List Nat} (h : ∀ q, q ∈ a → q ∈ b) : Heap.le (rem H b) (rem H a) := fun q en hq => by
  by_cases hm : q ∈ b
  · rw [rem_in hm] at hq; cases hq
  · rw [rem_out hm] at hq
    exact ⟨en, by rw [rem_out (fun h' => hm (h q h'))]; exact hq, .refl _⟩
section
variable {α β : Type} {P : Heap → List Value → α → Prop} {e sz : Nat} {Q : Heap → List Value → β → Prop} {e' sz' : Nat} {Hb H H' : Heap} {v v' u u' : Value} {l : List α} {xs : List Value} {k : List β} {ys : List Value}
theorem Gro2.swap (h : Gro2 P e sz Q e' sz' Hb H v l xs u k ys) : Gro2 Q e' sz' P e sz Hb H u k ys v l xs :=
  ⟨h.own', h.own, by rw [rem_swap]; exact h.els', by rw [rem_swap]; exact h.els, by rw [rem_swap]; exact h.base, fun q h1 h2 => h.apart q h2 h1⟩
theorem Gro2.le (h : Gro2 P e sz Q e' sz' Hb H v l xs u k ys) : Heap.le Hb H := h.base.trans (rem_le _ _)
theorem Gro2.blkne (h : Gro2 P e sz Q e' sz' Hb H v l xs u k ys) : ∀ q, q ∈ blk v ++ blk u → H q ≠ none := fun q hq => by
  rcases List.mem_append.1 hq with hq | hq
  · obtain ⟨en, he⟩ := h.own.block (blk_mem.1 hq); rw [he]; simp
  · obtain ⟨en, he⟩ := h.own'.block (blk_mem.1 hq); rw [he]; simp
/-- A second slice, empty as yet. -/
theorem Gro.two (h : Gro P e sz Hb H v l xs) : Gro2 P e sz Q e' sz' Hb H v l xs (.slice none 0 0) [] [] := by
  have e1 : blk v ++ blk (.slice none 0 0) = blk v := by rw [blk_nil, List.append_nil]
  exact ⟨h.own, own_nil H e' sz', by rw [e1]; exact h.els, els_nil, by rw [e1]; exact h.base, fun q _ hq => by rw [blk_nil] at hq; cases hq⟩
/-- The second slice is whole. -/
theorem Gro2.one (h : Gro2 P e sz Q e' sz' Hb H v l xs u k ys) (up : Up P) (uq : Up Q) : Gro P e sz Hb H v l xs ∧ SlV Q sz' (rem H (blk v)) u k := by
  have h1 : Heap.le (rem H (blk v ++ blk u)) (rem H (blk v)) := rem_sub fun q hq => List.mem_append_left _ hq
  refine ⟨⟨h.own, h.els.mono fun vs a => up _ _ vs a h1, h.base.trans h1⟩, ?_⟩
  refine OwnS.sl ⟨ys, h.own'.same fun q hq => ?_, h.els'.mono fun vs a => uq _ _ vs a h1⟩
  exact rem_out fun hv => h.apart q hv (blk_mem.2 hq)
theorem Gro2.step (h : Gro2 P e sz Q e' sz' Hb H v l xs u k ys) (up : Up P) (uq : Up Q) (hs : ∀ q, q ∈ blk v ++ blk u → H' q = H q) (hl : Heap.le (rem H (blk v ++ blk u)) (rem H' (blk v ++ blk u))) : Gro2 P e sz Q e' sz' Hb H' v l xs u k ys :=
  ⟨h.own.same fun q hq => hs q (List.mem_append_left _ (blk_mem.2 hq)), h.own'.same fun q hq => hs q (List.mem_append_right _ (blk_mem.2 hq)), h.els.mono fun vs a => up _ _ vs a hl, h.els'.mono fun vs a => uq _ _ vs a hl, h.base.trans hl, h.apart⟩
theorem Gro2.ins (h : Gro2 P e sz Q e' sz' Hb H v l xs u k ys) (up : Up P) (uq : Up Q) {g : Nat} (en : Ent) (hg : H g = none) : Gro2 P e sz Q e' sz' Hb (ins H g en) v l xs u k ys := by
  have hn : ¬ g ∈ blk v ++ blk u := fun hm => h.blkne g hm hg
  refine h.step up uq (fun q hq => ins_other _ _ fun e => hn (e ▸ hq)) ?_
  rw [rem_ins_out _ hn]
  exact Heap.le_ins _ (by rw [rem_out hn]; exact hg)
/-- The first slice grows. -/
theorem Gro2.append (h : Gro2 P e sz Q e' sz' Hb H v l xs u k ys) (up : Up P) (uq : Up Q) {m : Nat} {zs : List Value} {j : List α} (hm : m = l.length + j.length) (ha : App H v e sz m (xs ++ zs) v' H') (hz : Els (P (rem H (blk v ++ blk u))) sz zs j) : Gro2 P e sz Q e' sz' Hb H' v' (l ++ j) (xs ++ zs) u k ys := by
  have hvu : ∀ q, v.ownBlock = some q → ¬ u.ownBlock = some q := fun q h1 h2 => h.apart q (blk_mem.2 h1) (blk_mem.2 h2)
  have new : ∀ q, q ∈ blk v' → q ∈ blk v ∨ H q = none := fun q hq => by
    rcases ha.at_ with h4 | ⟨g, h4, h5⟩
    · exact .inl (blk_mem.2 (h4 ▸ blk_mem.1 hq))
    · have := blk_mem.1 hq; rw [h4] at this; cases this; exact .inr h5
  have ap : ∀ q, q ∈ blk v' → ¬ q ∈ blk u := fun q hq hu => by
    rcases new q hq with h1 | h1
    · exact h.apart q h1 hu
    · exact h.blkne q (List.mem_append_right _ hu) h1
  have hl : Heap.le (rem H (blk v ++ blk u)) (rem H' (blk v' ++ blk u)) := fun q en hq => by
    by_cases hm : q ∈ blk v ++ blk u
    · rw [rem_in hm] at hq; cases hq
    · rw [rem_out hm] at hq
      have h1 := ha.same q en hq fun e => hm (List.mem_append_left _ (blk_mem.2 e))
      have h2 : ¬ q ∈ blk v' ++ blk u := fun h2 => by
        rcases List.mem_append.1 h2 with h3 | h3
        · rcases new q h3 with h4 | h4
          · exact hm (List.mem_append_left _ h4)
          · rw [h4] at hq; cases hq
        · exact hm (List.mem_append_right _ h3)
      exact ⟨en, by rw [rem_out h2]; exact h1, .refl _⟩
  refine ⟨by rw [List.length_append, ← hm]; exact ha.own, h.own'.same fun q hq => ?_, (h.els.mono fun vs a => up _ _ vs a hl).append (hz.mono fun vs a => up _ _ vs a hl), h.els'.mono fun vs a => uq _ _ vs a hl, h.base.trans hl, ap⟩
  obtain ⟨en, he⟩ := h.own'.block hq
  rw [he]
  exact ha.same q en he fun h1 => hvu q h1 hq
/-- The second slice grows. -/
theorem Gro2.append' (h : Gro2 P e sz Q e' sz' Hb H v l xs u k ys) (up : Up P) (uq : Up Q) {m : Nat} {zs : List Value} {j : List β} (hm : m = k.length + j.length) (ha : App H u e' sz' m (ys ++ zs) u' H') (hz : Els (Q (rem H (blk v ++ blk u))) sz' zs j) : Gro2 P e sz Q e' sz' Hb H' v l xs u' (k ++ j) (ys ++ zs) :=
  (h.swap.append uq up hm ha (by rw [rem_swap]; exact hz)).swap
theorem Gro2.form (h : Gro2 P e sz Q e' sz' Hb H v l xs u k ys) : ∃ A c, v = .slice A l.length c := h.own.form
theorem Gro2.form' (h : Gro2 P e sz Q e' sz' Hb H v l xs u k ys) : ∃ A c, u = .slice A k.length c := h.own'.form
end
end Go.Eng
