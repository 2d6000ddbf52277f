/- slices.Compact and slices.BinarySearch at []int: the kit's contracts, laid at this program, as contracts of the engine. -/
import Derived.Test.YtbbjgagpbffooaaGreatA10
import Derived.Test.YtbbjgagpbffooaaGreatSrt
import Derived.Test.YtbbjgagpbffooaaGreatEnt
import Derived.Shelf.Slices.CompactI
import Derived.Shelf.Slices.Empties
set_option linter.unusedVariables false
namespace Go.Proofs
open Go.Shelf
def Tryz.lay20_ren : Go.Shelf.Ren := ⟨fun | 20 => 74 | n => n, fun | 0 => 0 | 2 => 2 | 3 => 3 | 4 => 4 | 5 => 5 | 22 => 57 | 33 => 96 | 40 => 132 | n => n, fun | n => n⟩
theorem Tryz.lay20 : Go.Proofs.Lays2.n20 Tryz.prog Tryz.lay20_ren := {
  mixed := by kernel_rfl
  f20 := Tryz.func74.trans (congrArg some (by kernel_rfl))
  t0 := Tryz.underlying0
  a0 := Tryz.isAgg0
  z0 := Tryz.sizeOf0
  v0 := Tryz.zeroValue0
  t3 := Tryz.underlying3
  a3 := Tryz.isAgg3
  z3 := Tryz.sizeOf3
  v3 := Tryz.zeroValue3
  t4 := Tryz.underlying4
  a4 := Tryz.isAgg4
  z4 := Tryz.sizeOf4
  v4 := Tryz.zeroValue4
  t22 := Tryz.underlying57
  a22 := Tryz.isAgg57
  z22 := Tryz.sizeOf57
  v22 := Tryz.zeroValue57
  i3 := by kernel_rfl }
end Go.Proofs
namespace Go.Eng
open Go.Proofs Go.Sort Lp
theorem ints_iv {H : Heap} {l : List Int} : Els (IntP H) 1 (iv l) l := by
  refine ⟨by rw [iv_len, Nat.mul_one], fun i z hz => ?_⟩
  rw [seg_one (iv_get.2 ⟨z, hz, rfl⟩)]; rfl
theorem ints_eq {H : Heap} {xs : List Value} {l : List Int} (h : Els (IntP H) 1 xs l) : xs = iv l := by
  refine List.ext_getElem? fun i => ?_
  cases hi : l[i]? with
  | none =>
    have h1 : l.length ≤ i := by simpa using hi
    rw [List.getElem?_eq_none (by rw [h.len]; omega), List.getElem?_eq_none (by rw [iv_len]; omega)]
  | some z =>
    obtain ⟨v, h1, h2⟩ := h.one hi
    have h2 : [v] = [.int .i64 z] := h2
    cases h2
    rw [h1, iv_get.2 ⟨z, hi, rfl⟩]
theorem cut_len (l : List Int) : (Lib.compact l).length ≤ l.length := by
  unfold Lib.compact Lib.compactUpTo
  rw [List.length_map]
  exact Nat.le_trans (List.length_filter_le _ _) (by simp)
theorem compact_ok {H : Heap} {v : Value} {l : List Int} (h : Own H v 3 1 l.length (iv l)) (hl : l.length ≤ 1000000) :
    Fn Tryz.prog 74 #[v] H (fun r H' => Heap.le (rem H (blk v)) H' ∧ SlV IntP 1 H' r (Lib.compact l)) := by
  refine ⟨⟨_, Tryz.func74, rfl, by decide⟩, fun w hd => ?_⟩
  rcases h.2 with ⟨rfl, h0⟩ | ⟨g, cap, rfl, hg, h1, h2⟩
  · have hl0 : l = [] := List.length_eq_zero_iff.1 h0
    subst hl0
    refine (Any.slices_Compact_int_empty Tryz.lay20 none 0 w).mono fun e w' ⟨h3, h4⟩ => ?_
    subst h4
    exact ⟨_, h3, H, ⟨rem_le _ _, SlV.nil⟩, hd, Fx.refl _ _⟩
  · have hgl := hd.lt hg
    refine (Any.slices_Compact_int Tryz.lay20 g 0 cap l w (holds_of hd hg) (by omega) h1).mono fun e w' ⟨h3, n, h4⟩ => ?_
    have hle := cut_len l
    have hk : (Lib.compact l ++ List.replicate (l.length - (Lib.compact l).length) 0).length = l.length := by simp; omega
    have h5 := put_den (n := n) (os := #[]) hd hg hk (by omega)
    have h6 : grow (putRow (Value.int .i64) (Sort.ahead w n) g 0 (Lib.compact l ++ List.replicate (l.length - (Lib.compact l).length) 0).toArray) #[] = w' := by
      rw [h4]; simp only [grow, Array.append_empty]
    rw [h6] at h5
    refine ⟨_, h3, _, ⟨?_, some ⟨g, 0, none⟩, cap, iv (Lib.compact l), rfl, by omega, fun i u hu => ⟨_, rfl, ?_⟩, ints_iv⟩, h5.1, h5.2⟩
    · have h7 := rem_ins_in (H := H) (gs := blk (.slice (some ⟨g, 0, none⟩) l.length cap)) (g := g) ⟨iv (Lib.compact l ++ List.replicate (l.length - (Lib.compact l).length) 0), cap * 1, 3, true⟩ (blk_mem.2 rfl)
      have h8 := rem_le (ins H g ⟨iv (Lib.compact l ++ List.replicate (l.length - (Lib.compact l).length) 0), cap * 1, 3, true⟩) (blk (.slice (some ⟨g, 0, none⟩) l.length cap))
      rwa [h7] at h8
    · rw [addr0]
      simp only [cell, ins_same]
      obtain ⟨z, hz, rfl⟩ := iv_get.1 hu
      exact iv_get.2 ⟨z, by rw [List.getElem?_append_left (List.getElem?_eq_some_iff.1 hz).1]; exact hz, rfl⟩
/-! ## what is left of an ascending list -/
theorem cut_mem {l : List Int} {x : Int} (h : x ∈ Lib.compact l) : x ∈ l := by
  unfold Lib.compact Lib.compactUpTo at h
  obtain ⟨i, hi, rfl⟩ := List.mem_map.1 h
  have hi' : i < l.length := List.mem_range.1 (List.mem_filter.1 hi).1
  simp [getElem!_pos, hi']
theorem le_at {l : List Int} (h : l.Pairwise (· ≤ ·)) {i j : Nat} (hij : i ≤ j) (hj : j < l.length) : l.toArray[i]! ≤ l.toArray[j]! := by
  have hi : i < l.length := by omega
  rw [getElem!_pos l.toArray i (by simpa using hi), getElem!_pos l.toArray j (by simpa using hj)]
  simp only [List.getElem_toArray]
  by_cases e : i = j
  · subst e; exact Int.le_refl _
  · exact List.pairwise_iff_getElem.1 h i j hi hj (by omega)
theorem cut_has {l : List Int} (h : l.Pairwise (· ≤ ·)) : ∀ i, i < l.length → l.toArray[i]! ∈ Lib.compact l := by
  intro i
  induction i with
  | zero =>
    intro hi
    exact List.mem_map.2 ⟨0, List.mem_filter.2 ⟨List.mem_range.2 hi, by simp [Lib.keeps]⟩, rfl⟩
  | succ i ih =>
    intro hi
    by_cases e : l.toArray[i + 1]! = l.toArray[i]!
    · rw [e]; exact ih (by omega)
    · exact List.mem_map.2 ⟨i + 1, List.mem_filter.2 ⟨List.mem_range.2 hi, decide_eq_true (.inr (by rw [show i + 1 - 1 = i from rfl]; exact e))⟩, rfl⟩
theorem cut_asc {l : List Int} (h : l.Pairwise (· ≤ ·)) : Asc (Lib.compact l) := by
  unfold Lib.compact Lib.compactUpTo Asc
  rw [List.pairwise_map]
  have h1 : ((List.range l.length).filter (Lib.keeps l.toArray)).Pairwise (· < ·) := List.Pairwise.filter _ List.pairwise_lt_range
  refine List.Pairwise.imp_of_mem (fun {i j} hi hj hij => ?_) h1
  have hj1 := List.mem_filter.1 hj
  have hj2 := List.mem_range.1 hj1.1
  have h2 : l.toArray[i]! ≤ l.toArray[j - 1]! := le_at h (by omega) (by omega)
  have h3 : l.toArray[j - 1]! ≤ l.toArray[j]! := le_at h (by omega) hj2
  have h4 : l.toArray[j]! ≠ l.toArray[j - 1]! := by
    have := hj1.2
    simp only [Lib.keeps, decide_eq_true_eq] at this
    rcases this with h5 | h5
    · omega
    · exact h5
  omega
/-- Sorted and without repetitions: what forms mention. -/
theorem cut_ment (fs : List Lin) : Lib.compact (srt (allVars fs)) = ment fs := by
  refine ment_unique (cut_asc (srt_le _)) fun v => ⟨fun h => srt_mem.1 (cut_mem h), fun h => ?_⟩
  obtain ⟨i, hi⟩ := List.getElem?_of_mem (srt_mem.2 h)
  have hi' := List.getElem?_eq_some_iff.1 hi
  have h1 := cut_has (srt_le (allVars fs)) i hi'.1
  rw [getElem!_pos _ i (by simpa using hi'.1)] at h1
  simpa [hi'.2] using h1
/-! ## where a variable stands -/
end Go.Eng
