/- One more element behind a slice of the call's own; a copy; a part of a form. -/
import Derived.Test.YtbbjgagpbffooaaGreatA10
import Derived.Test.YtbbjgagpbffooaaGreatLnd
import Derived.Test.YtbbjgagpbffooaaGreatSrt2
set_option linter.unusedVariables false
namespace Go.Eng
open Go.Proofs Num Lp
/-- 'append(x, a)' onto a slice of the call's own. -/
theorem vco_push {P : Program} {n : Nat} {all : Array Oper} {md : Mode} {r : List Oper} {s : St} {H Hb : Heap} {K : St → Heap → Prop} {dst : Option Nat} {ty : TypeId} {pos : String} {after : Array _} {gd : Option (Nat × Bool)}
    {α : Type} {Q : Heap → List Value → α → Prop} {t e sz bytes gb : Nat} {x y : Operand} {z v : Value} {l : List α} {a : α} {xs us : List Value} (up : Up Q) (one : One Q) (ht : P.underlying t = some (.slice e)) (he : ElT P e sz z bytes) (hx : ev s x = some v) (hy : ev s y = some (.slice (some ⟨gb, 0, none⟩) 1 1))
    (hG : Gro Q e sz Hb H v l xs) (hgb : H gb = none) (hq : Q (rem H (blk v)) us a) (hl : us.length = sz) (hb : (l.length + 1) * bytes ≤ 140737488355328) (hml : l.length + 1 ≤ 9223372036854775807)
    (hk : ∀ v' H' ys, Gro Q e sz Hb H' v' (l ++ [a]) ys → Heap.le (rem H (blk v)) H' → VCO P n all md r (putO s dst (.val v')) H' K) (hg : gdB all s gd = some true := by rfl) (nb : md.nb s dst = true := by rfl) : VCO P n all md (⟨dst, .call ⟨.builtin .append, #[x, y], #[t, t]⟩, ty, pos, after, gd⟩ :: r) s (ins H gb (whole us e)) K := by
  have hn : ¬ gb ∈ blk v := fun hm => hG.blkne gb hm hgb
  have hG2 := hG.ins up (whole us e) hgb
  have hle : Heap.le (rem H (blk v)) (rem (ins H gb (whole us e)) (blk v)) := rem_mono _ (Heap.le_ins _ hgb)
  refine vco_append (k := 1) ht he hx hy hG2.own (rd_ins _ _ _ _ _ _) (by rw [Nat.one_mul]; exact hl) (one _ _ _ hq) hb hml (fun v' H' ha => ?_) hg nb
  have hG3 := hG2.append up (k := [a]) rfl ha (els_one (up _ _ _ _ hle hq) hl)
  refine hk v' H' _ hG3 ?_
  have hG4 := hG2.rebase.append up (k := [a]) rfl ha (els_one (up _ _ _ _ hle hq) hl)
  exact hle.trans hG4.le
/-- A part of a form: a function of the program that gives it. -/
def PartV (H : Heap) (v : Value) (g : Lin → Int) : Prop := ∃ fid cap, v = .func (.func fid) #[] (List.toArray cap) ∧ ∀ H', Heap.le H H' → ∀ (f : Lin) (A : Option Addr) (c : Nat), SlV TermP 2 H' (.slice A f.ts.length c) f.ts → f.ts.length ≤ 1000000 → Fn Tryz.prog fid ([Value.agg #[.int .i64 f.c, .slice A f.ts.length c]] ++ cap).toArray H' (RetE H' (.int .i64 (g f)))
/-- A copy of forms, of the call's own. -/
def FormsP (fs : List Lin) (H : Heap) (v : Value) (H' : Heap) : Prop := ∃ ys, Gro FormP 25 2 H H' v fs ys
theorem FormsP.le {fs : List Lin} {H : Heap} {v : Value} {H' : Heap} (h : FormsP fs H v H') : Heap.le H H' := by
  obtain ⟨_, h⟩ := h; exact h.le
theorem Gro.cast {α : Type} {P : Heap → List Value → α → Prop} {e sz : Nat} {Hb H : Heap} {v : Value} {l l' : List α} {xs : List Value} (h : Gro P e sz Hb H v l xs) (k : l = l') : Gro P e sz Hb H v l' xs := by subst k; exact h
theorem Ined.cut {H : Heap} {v : Value} {l : List Int} {H' : Heap} (h : Ined H v l.length (srt l) H') : Own H' v 3 1 (srt l).length (iv (srt l)) := by
  rw [srt_len]; exact h.own
/-- Variables in memory. -/
def VarsP (l : List Int) (H : Heap) (v : Value) (H' : Heap) : Prop := Heap.le H H' ∧ ∃ A c, v = .slice A l.length c ∧ SlV IntP 1 H' (.slice A l.length c) l
end Go.Eng
namespace Go.Eng
open Go.Proofs Num Lp
/-- A new variable in the heap, stored into. -/
theorem hst_cell {H : Heap} {g e : Nat} (z0 z : Int) (hg : H g = none) : Heap.le H (ins (ins H g (whole [.int .i64 z0] e)) g { whole [.int .i64 z0] e with xs := splice (whole [.int .i64 z0] e).xs 0 [.int .i64 z] }) ∧ cell (ins (ins H g (whole [.int .i64 z0] e)) g { whole [.int .i64 z0] e with xs := splice (whole [.int .i64 z0] e).xs 0 [.int .i64 z] }) ⟨g, 0, none⟩ = some (.int .i64 z) := by
  refine ⟨?_, by simp [cell, ins, whole, splice]⟩
  rw [ins_ins]; exact Heap.le_ins _ hg
theorem szQ_int {n : Int} (h : -1048576 ≤ n ∧ n ≤ 1048576) : szQ (n : Rat) ≤ 1 := szQ_le.2 (by
  rw [Rat.num_intCast, Rat.den_intCast, Nat.pow_one, B_eq]; omega)
/-- Sizes of combinations. -/
theorem wsum_sz {fs : List Lin} {ys : List Rat} {N : Nat} {g : Lin → Int} (hy : ∀ q, q ∈ ys → szQ q ≤ N + 2) (hl : ys.length = fs.length) (hn : fs.length ≤ 1000) (hN : N ≤ 400000000) (hg : ∀ i, i < fs.length → -1048576 ≤ g (nth fs i) ∧ g (nth fs i) ≤ 1048576) {k : Nat} (hk : k ≤ fs.length) : szQ (sumN k (fun i => fn ys i * ((g (nth fs i) : Int) : Rat))) ≤ 900000000000 := by
  have h1 := sum_size (f := fn ys) (g := fun i => ((g (nth fs i) : Int) : Rat)) (s := N + 2) (n := fs.length) (fun k hk => ⟨fn_size hy (by omega), by have := szQ_int (hg k hk); omega⟩) k hk
  have h2 : k * (2 * (N + 2) + 1) ≤ 1000 * (2 * (N + 2) + 1) := Nat.mul_le_mul_right _ (by omega)
  omega
theorem sub_sz {p q : Rat} (h1 : szQ p ≤ 1) (h2 : szQ q ≤ 900000000000) : szQ (p - q) ≤ 1000000000000 := by
  have := szQ_sub p q; omega
end Go.Eng
