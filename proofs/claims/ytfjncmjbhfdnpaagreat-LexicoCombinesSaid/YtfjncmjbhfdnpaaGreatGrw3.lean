/- A slice that grows by append, while other blocks stay as they are. -/
import Derived.Test.YtfjncmjbhfdnpaaGreatA10
import Derived.Test.YtfjncmjbhfdnpaaGreatCat
set_option linter.unusedVariables false
namespace Go.Eng
open Go.Proofs Num Lp
structure GroX {α : Type} (gs : List Nat) (H0 : Heap) (P : Heap → List Value → α → Prop) (e sz : Nat) (H : Heap) (v : Value) (l : List α) (xs : List Value) : Prop where
  own : Own H v e sz l.length xs
  els : Els (P (rem H (gs ++ blk v))) sz xs l
  base : Heap.le (rem H0 gs) (rem H (gs ++ blk v))
  same : ∀ q, q ∈ gs → H q = H0 q
  live : ∀ q, q ∈ gs → H0 q ≠ none
  apart : ∀ q, q ∈ gs → ¬ q ∈ blk v
section
variable {α : Type} {gs : List Nat} {H0 H H' : Heap} {P : Heap → List Value → α → Prop} {e sz : Nat} {v v' : Value} {l : List α} {xs : List Value}
theorem GroX.le (h : GroX gs H0 P e sz H v l xs) : Heap.le H0 H := fun q en hq => by
  by_cases hm : q ∈ gs
  · exact ⟨en, by rw [h.same q hm]; exact hq, .refl _⟩
  · obtain ⟨en', h1, h2⟩ := h.base q en (by rw [rem_out hm]; exact hq)
    by_cases hm2 : q ∈ gs ++ blk v
    · rw [rem_in hm2] at h1; cases h1
    · rw [rem_out hm2] at h1; exact ⟨en', h1, h2⟩
theorem groX_nil (hl : ∀ q, q ∈ gs → H q ≠ none) : GroX gs H P e sz H (.slice none 0 0) [] [] := ⟨own_nil H e sz, els_nil, by rw [blk_nil, List.append_nil]; exact .refl _, fun _ _ => rfl, hl, fun q _ hq => by rw [blk_nil] at hq; cases hq⟩
theorem GroX.form (h : GroX gs H0 P e sz H v l xs) : ∃ A c, v = .slice A l.length c := h.own.form
theorem GroX.blkne (h : GroX gs H0 P e sz H v l xs) : ∀ q, q ∈ gs ++ blk v → H q ≠ none := fun q hq => by
  rcases List.mem_append.1 hq with hq | hq
  · rw [h.same q hq]; exact h.live q hq
  · obtain ⟨en, he⟩ := h.own.block (blk_mem.1 hq); rw [he]; simp
theorem GroX.step (h : GroX gs H0 P e sz H v l xs) (up : Up P) (hs : ∀ q, q ∈ gs ++ blk v → H' q = H q) (hl : Heap.le (rem H (gs ++ blk v)) (rem H' (gs ++ blk v))) : GroX gs H0 P e sz H' v l xs :=
  ⟨h.own.same fun q hq => hs q (List.mem_append_right _ (blk_mem.2 hq)), h.els.mono fun vs a => up _ _ vs a hl, h.base.trans hl, fun q hq => (hs q (List.mem_append_left _ hq)).trans (h.same q hq), h.live, h.apart⟩
theorem GroX.framed (h : GroX gs H0 P e sz H v l xs) (up : Up P) {Post : Value → Heap → Prop} {r : Value} (hf : Framed (gs ++ blk v) Post H r H') (hl : ∀ v' K, Post v' K → Heap.le (rem H (gs ++ blk v)) K) : GroX gs H0 P e sz H' v l xs := h.step up hf.same (hl _ _ hf.post)
theorem GroX.call (h : GroX gs H0 P e sz H v l xs) {R : Program} {f : FuncId} {args : Array Value} {Post : Value → Heap → Prop} (hc : Fn R f args (rem H (gs ++ blk v)) Post) : Fn R f args H (Framed (gs ++ blk v) Post H) := Fn.frame h.blkne hc
theorem GroX.ins (h : GroX gs H0 P e sz H v l xs) (up : Up P) {g : Nat} (en : Ent) (hg : H g = none) : GroX gs H0 P e sz (ins H g en) v l xs := by
  have hn : ¬ g ∈ gs ++ blk v := fun hm => h.blkne g hm hg
  refine h.step up (fun q hq => ins_other _ _ fun e => hn (e ▸ hq)) ?_
  rw [rem_ins_out _ hn]
  exact Heap.le_ins _ (by rw [rem_out hn]; exact hg)
theorem GroX.append (h : GroX gs H0 P e sz H v l xs) (up : Up P) {m : Nat} {zs : List Value} {j : List α} (hm : m = l.length + j.length) (ha : App H v e sz m (xs ++ zs) v' H') (hz : Els (P (rem H (gs ++ blk v))) sz zs j) : GroX gs H0 P e sz H' v' (l ++ j) (xs ++ zs) := by
  have new : ∀ q, q ∈ blk v' → q ∈ blk v ∨ H q = none := fun q hq => by
    rcases ha.at_ with h4 | ⟨g, h4, h5⟩
    · exact .inl (blk_mem.2 (h4 ▸ blk_mem.1 hq))
    · have := blk_mem.1 hq; rw [h4] at this; cases this; exact .inr h5
  have ap : ∀ q, q ∈ gs → ¬ q ∈ blk v' := fun q hg hq => by
    rcases new q hq with h1 | h1
    · exact h.apart q hg h1
    · exact h.blkne q (List.mem_append_left _ hg) h1
  have hl : Heap.le (rem H (gs ++ blk v)) (rem H' (gs ++ blk v')) := fun q en hq => by
    by_cases hm : q ∈ gs ++ blk v
    · rw [rem_in hm] at hq; cases hq
    · rw [rem_out hm] at hq
      have h1 := ha.same q en hq fun e => hm (List.mem_append_right _ (blk_mem.2 e))
      have h2 : ¬ q ∈ gs ++ blk v' := fun h2 => by
        rcases List.mem_append.1 h2 with h3 | h3
        · exact hm (List.mem_append_left _ h3)
        · rcases new q h3 with h4 | h4
          · exact hm (List.mem_append_right _ h4)
          · rw [h4] at hq; cases hq
      exact ⟨en, by rw [rem_out h2]; exact h1, .refl _⟩
  refine ⟨by rw [List.length_append, ← hm]; exact ha.own, (h.els.mono fun vs a => up _ _ vs a hl).append (hz.mono fun vs a => up _ _ vs a hl), h.base.trans hl, fun q hq => ?_, h.live, ap⟩
  rw [← h.same q hq]
  obtain ⟨en, he⟩ := Option.ne_none_iff_exists'.1 (h.blkne q (List.mem_append_left _ hq))
  rw [he]
  exact ha.same q en he fun h1 => h.apart q hq (blk_mem.2 h1)
/-- The slice is whole. -/
theorem GroX.sl (h : GroX gs H0 P e sz H v l xs) (up : Up P) : SlV P sz (rem H gs) v l := by
  have h1 : Heap.le (rem H (gs ++ blk v)) (rem H gs) := rem_sub fun q hq => List.mem_append_left _ hq
  exact OwnS.sl ⟨xs, h.own.same fun q hq => rem_out fun hg => h.apart q hg (blk_mem.2 hq), h.els.mono fun vs a => up _ _ vs a h1⟩
theorem GroX.out (h : GroX gs H0 P e sz H v l xs) : Heap.le (rem H0 gs) (rem H gs) := h.base.trans (rem_sub fun q hq => List.mem_append_left _ hq)
end
/-- Blocks stay, the rest grows. -/
structure Frz (gs : List Nat) (H H' : Heap) : Prop where
  same : ∀ q, q ∈ gs → H' q = H q
  le : Heap.le (rem H gs) (rem H' gs)
end Go.Eng
