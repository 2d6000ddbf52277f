/- A row of numbers of the call's own, made at once and filled in place. -/
import Derived.Test.YtbbjgagpbffooaaGreatA10
import Derived.Test.YtbbjgagpbffooaaGreatLnd2
set_option linter.unusedVariables false
namespace Go.Eng
open Go.Proofs Num Lp
abbrev MB : Nat := 1000000000000
structure MadeR (g : Nat) (Hb H : Heap) (f : Nat → Rat) (n : Nat) (xs : List Value) : Prop where
  ent : H g = some ⟨xs, n * 3, 36, true⟩
  els : Els (RatP MB (rem H [g])) 3 xs (vals f n)
  base : Heap.le Hb (rem H [g])
section
variable {g : Nat} {Hb H H' : Heap} {f : Nat → Rat} {n : Nat} {xs : List Value}
theorem madeR_new (hg : H g = none) : MadeR g H (ins H g ⟨madeL [.bool false, .slice none 0 0, .slice none 0 0] ((n : Int).toNat * 3), (n : Int).toNat * 3, 36, true⟩) (fun _ => 0) n (madeL [.bool false, .slice none 0 0, .slice none 0 0] (n * 3)) := by
  rw [Int.toNat_natCast]
  refine ⟨ins_same _ _ _, ?_, ?_⟩
  · rw [vals_const]; exact els_made (P := RatP MB _) rfl rawV_zero n
  · rw [rem_ins_new _ hg, rem_nil]; exact .refl _
theorem MadeR.live (h : MadeR g Hb H f n xs) : ∀ q, q ∈ [g] → H q ≠ none := fun q hq => by
  rw [List.mem_singleton.1 hq, h.ent]; simp
theorem MadeR.call (h : MadeR g Hb H f n xs) {R : Program} {k : FuncId} {args : Array Value} {Post : Value → Heap → Prop} (hc : Fn R k args (rem H [g]) Post) : Fn R k args H (Framed [g] Post H) := Fn.frame h.live hc
theorem MadeR.framed (h : MadeR g Hb H f n xs) {Post : Value → Heap → Prop} {r : Value} (hf : Framed [g] Post H r H') (hl : ∀ v' K, Post v' K → Heap.le (rem H [g]) K) : MadeR g Hb H' f n xs :=
  ⟨by rw [hf.same g (List.mem_singleton.2 rfl)]; exact h.ent, h.els.mono fun vs a => ratUp MB _ _ vs a (hl _ _ hf.post), h.base.trans (hl _ _ hf.post)⟩
theorem MadeR.rd (h : MadeR g Hb H f n xs) : Rd H (some ⟨g, 0, none⟩) xs := fun i v hv => ⟨_, rfl, by rw [addr0]; simp [cell, h.ent, hv]⟩
theorem MadeR.sl (h : MadeR g Hb H f n xs) : SlV (RatP MB) 3 H (.slice (some ⟨g, 0, none⟩) n n) (vals f n) := ⟨_, n, xs, by rw [vals_len], by rw [vals_len]; exact Nat.le_refl _, h.rd, h.els.mono fun vs a => ratUp MB _ _ vs a (rem_le _ _)⟩
theorem MadeR.room (h : MadeR g Hb H f n xs) : 0 + n * 3 ≤ (⟨xs, n * 3, 36, true⟩ : Eng.Ent).xs.length := by
  show 0 + n * 3 ≤ xs.length
  rw [h.els.len, vals_len]; omega
theorem MadeR.set (h : MadeR g Hb H f n xs) {k : Nat} (hk : k < n) {us : List Value} {q : Rat} (hq : RatP MB (rem H [g]) us q) (hl : us.length = 3) : MadeR g Hb (ins H g { (⟨xs, n * 3, 36, true⟩ : Eng.Ent) with xs := splice (⟨xs, n * 3, 36, true⟩ : Eng.Ent).xs (0 + (k : Int).toNat * 3) us }) (upd f k q) n (splice xs (k * 3) us) := by
  have hr : ∀ e, rem (ins H g e) [g] = rem H [g] := fun e => rem_ins_in _ (List.mem_singleton.2 rfl)
  rw [Nat.zero_add, Int.toNat_natCast]
  refine ⟨ins_same _ _ _, ?_, ?_⟩
  · rw [hr, ← vals_set]; exact h.els.set (by rw [vals_len]; exact hk) hq hl
  · rw [hr]; exact h.base
theorem MadeR.cast (h : MadeR g Hb H f n xs) {f' : Nat → Rat} (e : ∀ j, j < n → f j = f' j) : MadeR g Hb H f' n xs := ⟨h.ent, by rw [← vals_congr e]; exact h.els, h.base⟩
end
end Go.Eng
