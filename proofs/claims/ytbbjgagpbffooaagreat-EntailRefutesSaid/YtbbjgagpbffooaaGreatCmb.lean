/- A program in a block of the call's own, whose rows grow. -/
import Derived.Test.YtbbjgagpbffooaaGreatA10
import Derived.Test.YtbbjgagpbffooaaGreatLnd2
import Derived.Test.YtbbjgagpbffooaaGreatLx3
set_option linter.unusedVariables false
namespace Go.Eng
open Go.Proofs Num Lp
structure PrgB (gp : Nat) (H : Heap) (fv rv : Value) (rows : List (List Rat × Int × Rat)) (xs : List Value) : Prop where
  pb : H gp = some ⟨[fv, rv], 2, 83, true⟩
  own : Own H rv 113 5 rows.length xs
  els : Els (RowP 1 (rem H (gp :: blk rv))) 5 xs rows
  apart : ¬ gp ∈ blk rv
theorem rem_two (H : Heap) (a b : List Nat) : rem (rem H b) a = rem H (a ++ b) := by
  funext g
  by_cases h1 : g ∈ a
  · rw [rem_in h1, rem_in (List.mem_append_left _ h1)]
  · rw [rem_out h1]
    by_cases h2 : g ∈ b
    · rw [rem_in h2, rem_in (List.mem_append_right _ h2)]
    · rw [rem_out h2, rem_out (by rw [List.mem_append]; exact fun h => h.elim h1 h2)]
section
variable {gp : Nat} {H H' : Heap} {fv rv : Value} {rows : List (List Rat × Int × Rat)} {xs : List Value}
theorem PrgB.gx (h : PrgB gp H fv rv rows xs) : GroX [gp] (rem H (blk rv)) (RowP 1) 113 5 H rv rows xs := by
  refine ⟨h.own, h.els, ?_, fun q hq => ?_, fun q hq => ?_, fun q hq => ?_⟩
  · rw [rem_two]; exact .refl _
  · rw [List.mem_singleton.1 hq, rem_out h.apart]
  · rw [List.mem_singleton.1 hq, rem_out h.apart, h.pb]; simp
  · rw [List.mem_singleton.1 hq]; exact h.apart
theorem PrgB.live (h : PrgB gp H fv rv rows xs) : ∀ q, q ∈ gp :: blk rv → H q ≠ none := fun q hq => by
  rcases List.mem_cons.1 hq with rfl | hq
  · rw [h.pb]; simp
  · obtain ⟨en, he⟩ := h.own.block (blk_mem.1 hq); rw [he]; simp
theorem PrgB.step (h : PrgB gp H fv rv rows xs) (hs : ∀ q, q ∈ gp :: blk rv → H' q = H q) (hl : Heap.le (rem H (gp :: blk rv)) (rem H' (gp :: blk rv))) : PrgB gp H' fv rv rows xs :=
  ⟨(hs gp (List.mem_cons_self ..)).trans h.pb, h.own.same fun q hq => hs q (List.mem_cons_of_mem _ (blk_mem.2 hq)), h.els.mono fun vs a => rowUp 1 _ _ vs a hl, h.apart⟩
theorem PrgB.call (h : PrgB gp H fv rv rows xs) {R : Program} {f : FuncId} {args : Array Value} {Post : Value → Heap → Prop} (hc : Fn R f args (rem H (gp :: blk rv)) Post) : Fn R f args H (Framed (gp :: blk rv) Post H) := Fn.frame h.live hc
theorem PrgB.framed (h : PrgB gp H fv rv rows xs) {Post : Value → Heap → Prop} {r : Value} (hf : Framed (gp :: blk rv) Post H r H') (hl : ∀ v' K, Post v' K → Heap.le (rem H (gp :: blk rv)) K) : PrgB gp H' fv rv rows xs := h.step hf.same (hl _ _ hf.post)
theorem PrgB.ins (h : PrgB gp H fv rv rows xs) {g : Nat} (en : Ent) (hg : H g = none) : PrgB gp (ins H g en) fv rv rows xs := by
  have hn : ¬ g ∈ gp :: blk rv := fun hm => h.live g hm hg
  refine h.step (fun q hq => ins_other _ _ fun e => hn (e ▸ hq)) ?_
  rw [rem_ins_out _ hn]
  exact Heap.le_ins _ (by rw [rem_out hn]; exact hg)
/-- A row behind the others. -/
theorem PrgB.push (h : PrgB gp H fv rv rows xs) {gb : Nat} (hgb : H gb = none) {us : List Value} {r : List Rat × Int × Rat} (hr : RowP 1 (rem H (gp :: blk rv)) us r) (hl : us.length = 5) {v' : Value} {H6 : Heap} (ha : App (Eng.ins H gb (whole us 113)) rv 113 5 (rows.length + 1) (xs ++ us) v' H6) :
    H6 gp = some ⟨[fv, rv], 2, 83, true⟩ ∧ PrgB gp (Eng.ins H6 gp ⟨[fv, v'], 2, 83, true⟩) fv v' (rows ++ [r]) (xs ++ us) ∧ Heap.le (rem H (gp :: blk rv)) (rem (Eng.ins H6 gp ⟨[fv, v'], 2, 83, true⟩) (gp :: blk v')) := by
  have g2 := h.gx.ins (rowUp 1) (whole us 113) hgb
  have hle : Heap.le (rem H (gp :: blk rv)) (rem (Eng.ins H gb (whole us 113)) ([gp] ++ blk rv)) := rem_mono _ (Heap.le_ins _ hgb)
  have g3 := g2.append (rowUp 1) (j := [r]) rfl ha (els_one (rowUp 1 _ _ _ _ hle hr) hl)
  have hb := g3.base
  rw [rem_two] at hb
  have h6 : H6 gp = some ⟨[fv, rv], 2, 83, true⟩ := by
    rw [g3.same gp (List.mem_singleton.2 rfl), rem_out h.apart]; exact h.pb
  have hap : ¬ gp ∈ blk v' := g3.apart gp (List.mem_singleton.2 rfl)
  have hr6 : rem (Eng.ins H6 gp ⟨[fv, v'], 2, 83, true⟩) (gp :: blk v') = rem H6 (gp :: blk v') := rem_ins_in _ (List.mem_cons_self ..)
  refine ⟨h6, ⟨ins_same _ _ _, g3.own.same fun q hq => ins_other _ _ fun e => hap (e ▸ blk_mem.2 hq), ?_, hap⟩, ?_⟩
  · rw [hr6]; exact g3.els
  · rw [hr6]; exact hb
theorem PrgB.srows (h : PrgB gp H fv rv rows xs) : SlV (RowP 1) 5 H rv rows := OwnS.sl ⟨xs, h.own, h.els.mono fun vs a => rowUp 1 _ _ vs a (rem_le _ _)⟩
theorem PrgB.form (h : PrgB gp H fv rv rows xs) : ∃ A c, rv = .slice A rows.length c := h.own.form
/-- Its cells. -/
theorem PrgB.c0 (h : PrgB gp H fv rv rows xs) : cell H ⟨gp, 0, none⟩ = some fv := by simp [cell, h.pb]
theorem PrgB.c1 (h : PrgB gp H fv rv rows xs) : cell H ⟨gp, 1, none⟩ = some rv := by simp [cell, h.pb]
end
theorem PrgB.cells {gp : Nat} {H : Heap} {fv rv : Value} {rows : List (List Rat × Int × Rat)} {xs : List Value} (h : PrgB gp H fv rv rows xs) (i : Nat) (v : Value) (hi : [fv, rv][i]? = some v) : cell H ((⟨gp, 0, none⟩ : Addr).add i) = some v := by
  rw [addr0]
  match i, hi with
  | 0, hi => cases hi; exact h.c0
  | 1, hi => cases hi; exact h.c1
/-- A new program without rows. -/
theorem prgB_new {H : Heap} {gp : Nat} {fv : Value} : PrgB gp (ins H gp ⟨[fv, .slice none 0 0], 2, 83, true⟩) fv (.slice none 0 0) [] [] :=
  ⟨ins_same _ _ _, own_nil _ _ _, els_nil, fun h => by cases h⟩
/-- What the closure that adds a row gives. -/
def RowQ (gp : Nat) (H : Heap) (fv rv : Value) (rows : List (List Rat × Int × Rat)) (r : List Rat × Int × Rat) (v : Value) (H' : Heap) : Prop := v = .tuple #[] ∧ ∃ rv' xs', PrgB gp H' fv rv' (rows ++ [r]) xs' ∧ Heap.le (rem H (gp :: blk rv)) (rem H' (gp :: blk rv'))
end Go.Eng
namespace Go.Eng
open Go.Proofs Num Lp
/-- A copy of forms beside a block that stays. -/
theorem groX_of {gp : Nat} {H H' : Heap} {v : Value} {fs : List Lin} (hg : H gp ≠ none) (h : Framed [gp] (FormsP fs (rem H [gp])) H v H') : ∃ ys, GroX [gp] H FormP 25 2 H' v fs ys := by
  obtain ⟨⟨ys, hG⟩, hs⟩ := h
  have hle : Heap.le (rem (rem H' [gp]) (blk v)) (rem H' ([gp] ++ blk v)) := by
    rw [rem_two]; exact rem_sub fun q hq => by
      rcases List.mem_append.1 hq with h | h
      · exact List.mem_append_right _ h
      · exact List.mem_append_left _ h
  have hap : ∀ q, q ∈ [gp] → ¬ q ∈ blk v := fun q hq hm => hG.blkne q hm (rem_in hq)
  refine ⟨ys, hG.own.same fun q hq => ?_, hG.els.mono fun vs a => formUp _ _ vs a hle, hG.base.trans hle, hs, fun q hq => ?_, hap⟩
  · rw [rem_out fun hm => hap q hm (blk_mem.2 hq)]
  · rw [List.mem_singleton.1 hq]; exact hg
/-- A new variable beside the program. -/
theorem new_int {gp g e : Nat} {H : Heap} {fv rv : Value} {rows : List (List Rat × Int × Rat)} {xs : List Value} (z0 z : Int) (hg : H g = none) (hp : PrgB gp H fv rv rows xs) :
    PrgB gp (ins (ins H g (whole [.int .i64 z0] e)) g { whole [.int .i64 z0] e with xs := splice (whole [.int .i64 z0] e).xs 0 [.int .i64 z] }) fv rv rows xs ∧ Heap.le (rem H (gp :: blk rv)) (rem (ins (ins H g (whole [.int .i64 z0] e)) g { whole [.int .i64 z0] e with xs := splice (whole [.int .i64 z0] e).xs 0 [.int .i64 z] }) (gp :: blk rv)) ∧
    cell (rem (ins (ins H g (whole [.int .i64 z0] e)) g { whole [.int .i64 z0] e with xs := splice (whole [.int .i64 z0] e).xs 0 [.int .i64 z] }) (gp :: blk rv)) ⟨g, 0, none⟩ = some (.int .i64 z) := by
  have hn : ¬ g ∈ gp :: blk rv := fun hm => hp.live g hm hg
  rw [ins_ins]
  refine ⟨hp.ins _ hg, rem_mono _ (Heap.le_ins _ hg), ?_⟩
  unfold cell
  rw [rem_out hn, ins_same]
  simp [whole, splice]
end Go.Eng
