/- slices.Sort at []int: the kit's contract, laid at this program, as a contract of the engine. -/
import Derived.Test.YtbbjgagpbffooaaGreatA10
import Derived.Shelf.Sort.AssemblyIn
import Derived.Shelf.Slices.In.SortNone
import Derived.Sort.EveryDepth
set_option linter.unusedVariables false
namespace Go.Proofs
open Go.Shelf
def Tryz.lays189_ren : Go.Shelf.Ren := ⟨fun | 189 => 73 | 125 => 107 | 257 => 106 | 128 => 153 | 129 => 154 | 294 => 145 | 295 => 146 | 296 => 147 | 297 => 148 | 298 => 149 | 299 => 150 | 216 => 103 | 300 => 151 | 301 => 152 | 328 => 177 | 329 => 178 | 330 => 179 | 331 => 180 | 332 => 181 | 215 => 143 | 343 => 192 | n => n, fun | 28 => 57 | 3 => 3 | 46 => 132 | 0 => 0 | 51 => 76 | 53 => 75 | 4 => 4 | 183 => 181 | 182 => 180 | 131 => 96 | 5 => 5 | 9 => 9 | 218 => 199 | 222 => 203 | 228 => 213 | 229 => 214 | n => n, fun | n => n⟩
theorem Tryz.lays189 : Go.Proofs.Lays.n189 Tryz.prog Tryz.lays189_ren := {
  mixed := by kernel_rfl
  f125 := Tryz.func107.trans (congrArg some (by kernel_rfl))
  f128 := Tryz.func153.trans (congrArg some (by kernel_rfl))
  f129 := Tryz.func154.trans (congrArg some (by kernel_rfl))
  f189 := Tryz.func73.trans (congrArg some (by kernel_rfl))
  f215 := Tryz.func143.trans (congrArg some (by kernel_rfl))
  f216 := Tryz.func103.trans (congrArg some (by kernel_rfl))
  f257 := Tryz.func106.trans (congrArg some (by kernel_rfl))
  f294 := Tryz.func145.trans (congrArg some (by kernel_rfl))
  f295 := Tryz.func146.trans (congrArg some (by kernel_rfl))
  f296 := Tryz.func147.trans (congrArg some (by kernel_rfl))
  f297 := Tryz.func148.trans (congrArg some (by kernel_rfl))
  f298 := Tryz.func149.trans (congrArg some (by kernel_rfl))
  f299 := Tryz.func150.trans (congrArg some (by kernel_rfl))
  f300 := Tryz.func151.trans (congrArg some (by kernel_rfl))
  f301 := Tryz.func152.trans (congrArg some (by kernel_rfl))
  f328 := Tryz.func177.trans (congrArg some (by kernel_rfl))
  f329 := Tryz.func178.trans (congrArg some (by kernel_rfl))
  f330 := Tryz.func179.trans (congrArg some (by kernel_rfl))
  f331 := Tryz.func180.trans (congrArg some (by kernel_rfl))
  f332 := Tryz.func181.trans (congrArg some (by kernel_rfl))
  f343 := Tryz.func192.trans (congrArg some (by kernel_rfl))
  t0 := Tryz.underlying0
  a0 := Tryz.isAgg0
  z0 := Tryz.sizeOf0
  v0 := Tryz.zeroValue0
  t3 := Tryz.underlying3
  a3 := Tryz.isAgg3
  z3 := Tryz.sizeOf3
  v3 := Tryz.zeroValue3
  t4 := Tryz.underlying4
  a4 := Tryz.isAgg4
  z4 := Tryz.sizeOf4
  v4 := Tryz.zeroValue4
  t5 := Tryz.underlying5
  a5 := Tryz.isAgg5
  z5 := Tryz.sizeOf5
  v5 := Tryz.zeroValue5
  t9 := Tryz.underlying9
  a9 := Tryz.isAgg9
  z9 := Tryz.sizeOf9
  v9 := Tryz.zeroValue9
  t28 := Tryz.underlying57
  a28 := Tryz.isAgg57
  z28 := Tryz.sizeOf57
  v28 := Tryz.zeroValue57
  t46 := Tryz.underlying132
  a46 := Tryz.isAgg132
  z46 := Tryz.sizeOf132
  v46 := Tryz.zeroValue132
  t51 := Tryz.underlying76
  a51 := Tryz.isAgg76
  z51 := Tryz.sizeOf76
  v51 := Tryz.zeroValue76
  t53 := Tryz.underlying75
  a53 := Tryz.isAgg75
  z53 := Tryz.sizeOf75
  v53 := Tryz.zeroValue75
  t131 := Tryz.underlying96
  a131 := Tryz.isAgg96
  z131 := Tryz.sizeOf96
  v131 := Tryz.zeroValue96
  t182 := Tryz.underlying180
  a182 := Tryz.isAgg180
  z182 := Tryz.sizeOf180
  v182 := Tryz.zeroValue180
  t183 := Tryz.underlying181
  a183 := Tryz.isAgg181
  z183 := Tryz.sizeOf181
  v183 := Tryz.zeroValue181
  t218 := Tryz.underlying199
  a218 := Tryz.isAgg199
  z218 := Tryz.sizeOf199
  v218 := Tryz.zeroValue199
  t222 := Tryz.underlying203
  a222 := Tryz.isAgg203
  z222 := Tryz.sizeOf203
  v222 := Tryz.zeroValue203
  t228 := Tryz.underlying213
  a228 := Tryz.isAgg213
  z228 := Tryz.sizeOf213
  v228 := Tryz.zeroValue213
  t229 := Tryz.underlying214
  a229 := Tryz.isAgg214
  z229 := Tryz.sizeOf214
  v229 := Tryz.zeroValue214 }
end Go.Proofs
namespace Go.Eng
open Go.Proofs Go.Sort
def iv (l : List Int) : List Value := l.map (Value.int .i64)
theorem iv_get {l : List Int} {i : Nat} {v : Value} : (iv l)[i]? = some v ↔ ∃ z, l[i]? = some z ∧ v = .int .i64 z := by
  unfold iv
  rw [List.getElem?_map]
  cases l[i]? with
  | none => simp
  | some z => simp [eq_comm]
theorem iv_len (l : List Int) : (iv l).length = l.length := by simp [iv]
/-- A row of integers is written in place. -/
theorem put_den {H : Heap} {w : World} {g c e n : Nat} {l k : List Int} {os : Array Obj} (hd : Den H w) (hg : H g = some ⟨iv l, c, e, true⟩) (hk : k.length = l.length) (hc : l.length ≤ c) :
    Den (ins H g ⟨iv k, c, e, true⟩) (grow (putRow (Value.int .i64) (Sort.ahead w n) g 0 k.toArray) os) ∧ Fx H w (ins H g ⟨iv k, c, e, true⟩) (grow (putRow (Value.int .i64) (Sort.ahead w n) g 0 k.toArray) os) := by
  have hold : ∀ q, q < w.heap.size → (grow (putRow (Value.int .i64) (Sort.ahead w n) g 0 k.toArray) os).heap[q]? = if g = q then (w.heap[q]?).map (onCells (putCells (Value.int .i64) 0 k.toArray)) else w.heap[q]? := fun q hq => by
    have h1 : (grow (putRow (Value.int .i64) (Sort.ahead w n) g 0 k.toArray) os).heap = w.heap.modify g (onCells (putCells (Value.int .i64) 0 k.toArray)) ++ os := rfl
    rw [h1, Array.getElem?_append_left (by simpa using hq), Array.getElem?_modify]
  have hsz : w.heap.size ≤ (grow (putRow (Value.int .i64) (Sort.ahead w n) g 0 k.toArray) os).heap.size := by
    have h1 : (grow (putRow (Value.int .i64) (Sort.ahead w n) g 0 k.toArray) os).heap = w.heap.modify g (onCells (putCells (Value.int .i64) 0 k.toArray)) ++ os := rfl
    rw [h1]; simp
  obtain ⟨o, ho, cs, fz, rfl, h3, h4, h5⟩ := hd g _ hg
  have hgl := (Array.getElem?_eq_some_iff.1 ho).1
  refine ⟨fun q en hq => ?_, rfl, rfl, rfl, hsz, fun q hq h0 => ?_, fun q c' t f' hq => ?_⟩
  · by_cases e1 : q = g
    · subst e1
      rw [ins_same] at hq
      cases hq
      refine ⟨_, by rw [hold q hgl, if_pos rfl, ho]; rfl, _, fz, rfl, by simp [putCells]; exact h3, fun i v hv => ?_, h5⟩
      obtain ⟨z, hz, rfl⟩ := iv_get.1 hv
      have hi := (List.getElem?_eq_some_iff.1 hz).1
      have hi2 : i < cs.size := by rw [h3]; show i < c; omega
      simp only [putCells]
      rw [Array.getElem?_mapIdx, Array.getElem?_eq_getElem hi2]
      simp only [Option.map_some, Nat.zero_le, true_and, Nat.zero_add, List.size_toArray, Nat.sub_zero]
      rw [if_pos hi]
      simp [List.getElem?_eq_some_iff.1 hz |>.2, hi]
    · rw [ins_other _ _ e1] at hq
      obtain ⟨o', h6, h7⟩ := hd q en hq
      refine ⟨o', ?_, h7⟩
      rw [hold q (Array.getElem?_eq_some_iff.1 h6).1, if_neg (fun e => e1 e.symm)]; exact h6
  · have e1 : q ≠ g := fun e => by subst e; rw [h0] at hg; cases hg
    exact ⟨by rw [hold q hq, if_neg (fun e => e1 e.symm)], by rw [ins_other _ _ e1]; exact h0⟩
  · have hql := (Array.getElem?_eq_some_iff.1 hq).1
    rw [hold q hql]
    split
    · rw [hq]; exact ⟨_, rfl, by simp [putCells]⟩
    · exact ⟨c', hq, rfl⟩
theorem holds_of {H : Heap} {w : World} {g c e : Nat} {l : List Int} (hd : Den H w) (hg : H g = some ⟨iv l, c, e, true⟩) : Holds (Value.int .i64) w g 0 l.toArray := fun j hj => by
  obtain ⟨o, ho, cs, fz, rfl, h3, h4, h5⟩ := hd g _ hg
  have hfz := h5 rfl
  subst hfz
  have hj' : j < l.length := by simpa using hj
  have h1 : cs[j]? = some (.int .i64 l[j]) := h4 j _ (iv_get.2 ⟨_, List.getElem?_eq_getElem hj', rfl⟩)
  refine ⟨?_, by simp [World.frozen?, ho]⟩
  rw [Nat.zero_add]
  have h2 : w.cell? ⟨g, j, none⟩ = cs[j]? := by simp [World.cell?, ho]
  rw [h2, h1]
  simp [hj']
def srt (l : List Int) : List Int := l.mergeSort fun x y => decide (x ≤ y)
theorem srt_len (l : List Int) : (srt l).length = l.length := by simp [srt]
theorem srt_mem {l : List Int} {x : Int} : x ∈ srt l ↔ x ∈ l := by simp [srt]
theorem srt_le (l : List Int) : (srt l).Pairwise (· ≤ ·) := by
  have h := List.pairwise_mergeSort (le := fun x y : Int => decide (x ≤ y)) (fun a b c h1 h2 => by simp at *; omega) (fun a b => by simp; omega) l
  exact h.imp fun h => by simpa using h
/-- What an effect leaves that turns a row of integers of its own. -/
structure Ined (H : Heap) (v : Value) (n : Nat) (k : List Int) (H' : Heap) : Prop where
  own : Own H' v 3 1 n (iv k)
  rem : rem H' (blk v) = rem H (blk v)
theorem sort_ok {H : Heap} {v : Value} {l : List Int} (h : Own H v 3 1 l.length (iv l)) (hl : l.length < 4611686018427387904) :
    Fn Tryz.prog 73 #[v] H (fun r H' => r = .tuple #[] ∧ Ined H v l.length (srt l) H') := by
  refine ⟨⟨_, Tryz.func73, rfl, by decide⟩, fun w hd => ?_⟩
  rcases h.2 with ⟨rfl, h0⟩ | ⟨g, cap, rfl, hg, h1, h2⟩
  · have hl0 : l = [] := List.length_eq_zero_iff.1 h0
    subst hl0
    refine (Any.slices_Sort_int_none Tryz.lays189 none 0 w).mono fun e w' ⟨h3, h4⟩ => ?_
    subst h4
    have hs : srt [] = [] := List.length_eq_zero_iff.1 (srt_len [])
    exact ⟨_, h3, H, ⟨rfl, by rw [hs]; exact h, rfl⟩, hd, Fx.refl _ _⟩
  · have hgl := hd.lt hg
    refine (calls_of_every_depth fun D => AnyS.slices_Sort_int_in Tryz.lays189 D g 0 cap l w (holds_of hd hg) hgl hl).mono fun e w' ⟨h3, n, os, h4⟩ => ?_
    subst h4
    have h5 := put_den (n := n) (os := os) hd hg (srt_len l) (by omega)
    refine ⟨_, h3, _, ⟨rfl, ⟨⟨by rw [iv_len, srt_len, Nat.mul_one], .inr ⟨g, cap, rfl, ins_same _ _ _, h1, h2⟩⟩, ?_⟩⟩, h5.1, h5.2⟩
    exact rem_ins_in _ (blk_mem.2 rfl)
end Go.Eng
