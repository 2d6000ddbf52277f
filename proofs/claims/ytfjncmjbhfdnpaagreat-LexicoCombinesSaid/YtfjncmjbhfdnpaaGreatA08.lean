/- Part 8 of the proof: Nt, Nt2, Nt3, Lay1, Mz, Mz2. -/
import Derived.Test.YtfjncmjbhfdnpaaGreatA07
set_option linter.unusedVariables false
/- The columns of a tableau, and how lists grow in memory. -/
namespace Go.Eng
open Go.Proofs Num Lp
/-! ## the columns -/
def colc (fr : Nat → Bool) : Nat → Nat
  | 0 => 0
  | k + 1 => colc fr k + 1 + (if fr k then 1 else 0)
def mnz (fr : Nat → Bool) (k : Nat) : Int := if fr k then ((colc fr k + 1 : Nat) : Int) else -1
def slc (rel : Nat → Int) (c : Nat) : Nat → Nat
  | 0 => c
  | i + 1 => slc rel c i + (if rel i = 2 then 0 else 1)
def slz (rel : Nat → Int) (c i : Nat) : Int := if rel i = 2 then -1 else (slc rel c i : Int)
def sgi (b : Rat) (rel : Int) : Int := if b < 0 ∨ (b = 0 ∧ rel = 3) then -1 else 1
def ownB (rel s : Int) : Bool := decide ((rel = 1 ∧ s = 1) ∨ (rel = 3 ∧ s = -1))
def unc (rel sg : Nat → Int) (u : Nat) : Nat → Nat
  | 0 => u
  | i + 1 => unc rel sg u i + (if ownB (rel i) (sg i) then 0 else 1)
def unt (rel sg : Nat → Int) (c u i : Nat) : Nat := if ownB (rel i) (sg i) then slc rel c i else unc rel sg u i
theorem sgi_or (b : Rat) (rel : Int) : sgi b rel = 1 ∨ sgi b rel = -1 := by unfold sgi; split <;> simp
theorem colc_le (fr : Nat → Bool) (k : Nat) : colc fr k ≤ 2 * k := by
  induction k with
  | zero => exact Nat.le_refl _
  | succ k ih => unfold colc; split <;> omega
theorem slc_le (rel : Nat → Int) (c k : Nat) : slc rel c k ≤ c + k ∧ c ≤ slc rel c k := by
  induction k with
  | zero => exact ⟨Nat.le_refl _, Nat.le_refl _⟩
  | succ k ih => unfold slc; split <;> omega
theorem unc_le (rel sg : Nat → Int) (u k : Nat) : unc rel sg u k ≤ u + k ∧ u ≤ unc rel sg u k := by
  induction k with
  | zero => exact ⟨Nat.le_refl _, Nat.le_refl _⟩
  | succ k ih => unfold unc; split <;> omega
theorem colc_mono {fr : Nat → Bool} {j k : Nat} (h : j < k) : colc fr j + 1 + (if fr j then 1 else 0) ≤ colc fr k := by
  induction k with
  | zero => omega
  | succ k ih =>
    by_cases e : j = k
    · subst e; exact Nat.le_refl _
    · have := ih (by omega)
      show _ ≤ colc fr k + 1 + (if fr k then 1 else 0)
      omega
theorem slc_mono {rel : Nat → Int} {c j k : Nat} (h : j < k) : slc rel c j + (if rel j = 2 then 0 else 1) ≤ slc rel c k := by
  induction k with
  | zero => omega
  | succ k ih =>
    by_cases e : j = k
    · subst e; exact Nat.le_refl _
    · have := ih (by omega)
      show _ ≤ slc rel c k + (if rel k = 2 then 0 else 1)
      omega
theorem unc_mono {rel sg : Nat → Int} {u j k : Nat} (h : j < k) : unc rel sg u j + (if ownB (rel j) (sg j) then 0 else 1) ≤ unc rel sg u k := by
  induction k with
  | zero => omega
  | succ k ih =>
    by_cases e : j = k
    · subst e; exact Nat.le_refl _
    · have := ih (by omega)
      show _ ≤ unc rel sg u k + (if ownB (rel k) (sg k) then 0 else 1)
      omega
/-! ## lists of integers -/
def ints (f : Nat → Int) (k : Nat) : List Value := (List.range k).map fun j => .int .i64 (f j)
theorem ints_succ (f : Nat → Int) (k : Nat) : ints f (k + 1) = ints f k ++ [.int .i64 (f k)] := by
  unfold ints; rw [List.range_succ, List.map_append]; rfl
theorem ints_len (f : Nat → Int) (k : Nat) : (ints f k).length = k := by simp [ints]
theorem ints_get {f : Nat → Int} {k i : Nat} (h : i < k) : (ints f k)[i]? = some (.int .i64 (f i)) := by simp [ints, h]
theorem Own.ints {K : Heap} {v : Value} {f : Nat → Int} {k : Nat} (h : Own K v 3 1 k (Eng.ints f k)) : SlV IntP 1 K v ((List.range k).map f) := by
  obtain ⟨A, c, rfl⟩ := h.form
  refine ⟨A, c, _, by rw [List.length_map, List.length_range], ?_, h.rd, ⟨by rw [ints_len, List.length_map, List.length_range, Nat.mul_one], fun i z hz => ?_⟩⟩
  · rw [List.length_map, List.length_range]
    rcases h.2 with ⟨k1, k2⟩ | ⟨g, cap, k1, _, k3, _⟩
    · omega
    · cases k1; exact k3
  · rw [List.getElem?_map] at hz
    have hi : i < k := by
      false_or_by_contra
      rw [List.getElem?_eq_none (by rw [List.length_range]; omega)] at hz; cases hz
    rw [List.getElem?_range hi] at hz
    cases hz
    rw [seg_one (ints_get hi)]; rfl
theorem Own.nats {K : Heap} {v : Value} {f : Nat → Nat} {k : Nat} (h : Own K v 3 1 k (Eng.ints (fun j => (f j : Int)) k)) : SlV NatP 1 K v ((List.range k).map f) := by
  obtain ⟨A, c, xs, h1, h2, h3, h4⟩ := Own.ints h
  rw [List.length_map, List.length_range] at h1 h2
  refine ⟨A, c, xs, by rw [List.length_map, List.length_range]; exact h1, by rw [List.length_map, List.length_range]; exact h2, h3, ⟨by rw [h4.len, List.length_map, List.length_map], fun i z hz => ?_⟩⟩
  rw [List.getElem?_map] at hz
  cases hr : (List.range k)[i]? with
  | none => rw [hr] at hz; cases hz
  | some j =>
    rw [hr] at hz
    cases hz
    exact h4.at_ i (f j : Int) (by rw [List.getElem?_map, hr]; rfl)
/-- Two slices do not share their block. -/
def Apart (v v' : Value) : Prop := ∀ q, v.ownBlock = some q → v'.ownBlock ≠ some q
theorem Apart.symm {v v' : Value} (h : Apart v v') : Apart v' v := fun q h1 h2 => h q h2 h1
/-- Memory in which a list has grown. -/
structure Grew (K0 : Heap) (hdr : Value) (e sz n : Nat) (xs : List Value) (v : Value) (K : Heap) : Prop where
  own : Own K v e sz n xs
  le : Heap.le K0 K
  new : ∀ q, v.ownBlock = some q → hdr.ownBlock = some q ∨ K0 q = none
  keep : ∀ (v' : Value) (e' sz' n' : Nat) (xs' : List Value), Own K0 v' e' sz' n' xs' → Apart hdr v' → Own K v' e' sz' n' xs' ∧ Apart v v'
theorem Own.lift {H : Heap} {gs : List Nat} {v : Value} {e sz n : Nat} {xs : List Value} (h : Own (rem H gs) v e sz n xs) : Own H v e sz n xs ∧ ∀ q, q ∈ gs → v.ownBlock ≠ some q := by
  have h2 : ∀ q, q ∈ gs → v.ownBlock ≠ some q := fun q hq hv => by
    obtain ⟨en, he⟩ := h.block hv
    rw [rem_in hq] at he; cases he
  exact ⟨h.same fun q hq => (rem_out (fun hm => h2 q hm hq)).symm, h2⟩
theorem grew {H1 H3 : Heap} {gs : List Nat} {hdr v3 : Value} {e sz n0 n gb : Nat} {xs0 xs : List Value} {en : Ent} (hne : ∀ q, q ∈ gs → H1 q ≠ none) (hgb : H1 gb = none) (ho : Own (rem H1 gs) hdr e sz n0 xs0) (ha : App (ins H1 gb en) hdr e sz n xs v3 H3) :
    Grew (rem H1 gs) hdr e sz n xs v3 (rem H3 gs) ∧ ∀ q, q ∈ gs → H3 q = H1 q := by
  obtain ⟨hl, hh⟩ := ho.lift
  have hgbs : ¬ gb ∈ gs := fun h => hne gb h hgb
  have hne2 : ∀ q, q ∈ gs → ins H1 gb en q ≠ none := fun q hq => by rw [ins_other _ _ (fun e => hgbs (by rw [← e]; exact hq))]; exact hne q hq
  obtain ⟨ha2, hs⟩ := ha.rem hne2 hh
  rw [rem_ins_out _ hgbs] at ha2
  have hK : rem H1 gs gb = none := by rw [rem_out hgbs]; exact hgb
  refine ⟨⟨ha2.own, (Heap.le_ins _ hK).trans ha2.le, fun q hq => (by
    rcases ha2.at_ with h4 | ⟨g', h4, h5⟩
    · exact .inl (by rw [← h4]; exact hq)
    · rw [h4] at hq
      cases hq
      exact .inr (none_ins h5).2), fun v' e' sz' n' xs' h' hap => ?_⟩, fun q hq => by rw [hs q hq, ins_other _ _ (fun e => hgbs (by rw [← e]; exact hq))]⟩
  have h1 : Own (ins (rem H1 gs) gb en) v' e' sz' n' xs' := h'.ins _ hK
  refine ⟨h1.same fun q hq => ?_, fun q h2 h3 => ?_⟩
  · obtain ⟨en', he'⟩ := h1.block hq
    rw [ha2.same q en' he' (fun h => hap q h hq), he']
  · rcases ha2.at_ with h4 | ⟨g', h4, h5⟩
    · exact hap q (by rw [← h4]; exact h2) h3
    · rw [h4] at h2
      cases h2
      obtain ⟨en', he'⟩ := h1.block h3
      rw [h5] at he'; cases he'
/-- The cells that a closure leaves alone. -/
def kc2 (a1 : Addr) (v1 : Value) (a2 : Addr) (v2 : Value) (ad : Addr) : Option Value := if ad = a1 then some v1 else if ad = a2 then some v2 else none
theorem kc2_cov {a1 a2 : Addr} {v1 v2 : Value} {H : Heap} (h1 : cell H a1 = some v1) (h2 : cell H a2 = some v2) : (Mode.drawK (kc2 a1 v1 a2 v2)).cov H := fun ad v h => by
  have h' : kc2 a1 v1 a2 v2 ad = some v := h
  unfold kc2 at h'
  split at h'
  · rename_i e; rw [e, h1]; exact h'
  · split at h'
    · rename_i e; rw [e, h2]; exact h'
    · cases h'
theorem kc2_a {a1 a2 : Addr} {v1 v2 : Value} : kc2 a1 v1 a2 v2 a1 = some v1 := by simp [kc2]
theorem kc2_b {a1 a2 : Addr} {v1 v2 : Value} (h : a2 ≠ a1) : kc2 a1 v1 a2 v2 a2 = some v2 := by simp [kc2, h]
theorem addr_ne {g g' o o' : Nat} (h : g ≠ g') : (⟨g, o, none⟩ : Addr) ≠ ⟨g', o', none⟩ := fun e => h (by cases e; rfl)
/-- A program. -/
def BoolP (_ : Heap) (vs : List Value) (b : Bool) : Prop := vs = [.bool b]
theorem boolUp : Up BoolP := fun _ _ _ _ _ h => h
def ProgV (N : Nat) (H : Heap) (v : Value) (p : Prg) : Prop := ∃ fv rv, v = .agg #[fv, rv] ∧ SlV BoolP 1 H fv p.free ∧ SlV (RowP N) 5 H rv p.rows
theorem ProgV.le {N : Nat} {H H' : Heap} {v : Value} {p : Prg} (h : ProgV N H v p) (hl : Heap.le H H') : ProgV N H' v p := by
  obtain ⟨fv, rv, h1, h2, h3⟩ := h
  exact ⟨fv, rv, h1, h2.le boolUp hl, h3.le (rowUp N) hl⟩
/-! ## the tableau of a program -/
section
variable (p : Prg)
abbrev _root_.Lp.Prg.sgN (i : Nat) : Int := sgi (p.lp.b i) (p.lp.rel i)
abbrev _root_.Lp.Prg.c1 : Nat := colc p.lp.free p.lp.n
abbrev _root_.Lp.Prg.u : Nat := slc p.lp.rel p.c1 p.lp.m
abbrev _root_.Lp.Prg.w : Nat := unc p.lp.rel p.sgN p.u p.lp.m
abbrev _root_.Lp.Prg.unit (i : Nat) : Nat := unt p.lp.rel p.sgN p.c1 p.u i
def _root_.Lp.Prg.lay : TL := ⟨p.w, p.u, (List.range p.lp.n).map (colc p.lp.free), (List.range p.lp.n).map (mnz p.lp.free), (List.range p.lp.m).map p.unit, vals (fun i => (p.sgN i : Rat)) p.lp.m⟩
def _root_.Lp.Prg.tab0 : Tab := ⟨p.lp.m, p.w, fun i => rowF p.lay p.lp.n (p.lp.a i) (p.lp.b i) (p.lp.rel i) (slz p.lp.rel p.c1 i) (p.unit i) (p.sgN i : Rat), fun _ => 0, p.unit⟩
end
end Go.Eng
namespace Go.Eng
theorem hcv_ins {H : Heap} {gv g : Nat} {e : Ent} {v : Value} (h : cell H ⟨gv, 0, none⟩ = some v) (hne : gv ≠ g) : cell (ins H g e) ⟨gv, 0, none⟩ = some v := by
  simp only [cell, ins_other _ _ hne] at h ⊢; exact h
theorem one_int (z : Int) : ∀ u, u ∈ [Value.int .i64 z] → u.oneCell' = true := fun u hu => by rw [List.mem_singleton] at hu; rw [hu]; rfl
theorem ints_set {f : Nat → Int} {m i : Nat} {z : Int} : (ints f m).set i (.int .i64 z) = ints (fun j => if j = i then z else f j) m := by
  apply List.ext_getElem?
  intro j
  by_cases hj : j < m
  · by_cases e : j = i
    · subst e
      rw [List.getElem?_set_self (by rw [ints_len]; exact hj), ints_get hj, if_pos rfl]
    · rw [List.getElem?_set_ne (fun e' => e e'.symm), ints_get hj, ints_get hj, if_neg e]
  · rw [List.getElem?_eq_none (by rw [List.length_set, ints_len]; omega), List.getElem?_eq_none (by rw [ints_len]; omega)]
theorem ints_congr {f g : Nat → Int} {m : Nat} (h : ∀ j, j < m → f j = g j) : ints f m = ints g m := by
  unfold ints
  apply List.map_congr_left
  intro j hj
  rw [h j (List.mem_range.1 hj)]
theorem SlV.row {N : Nat} {H : Heap} {v : Value} {l : List (List Rat × Int × Rat)} (h : SlV (RowP N) 5 H v l) : ∃ A c xs, v = .slice A l.length c ∧ Rd H A xs ∧ ∀ (i : Nat) (r : List Rat × Int × Rat), l[i]? = some r → ∃ A0 c0 f A1 m1 c1 A2 m2 c2, RowP N H [.slice A0 r.1.length c0, .int .i64 r.2.1, .bool f, .slice A1 m1 c1, .slice A2 m2 c2] r ∧ ∀ (j : Nat) (u : Value), [.slice A0 r.1.length c0, .int .i64 r.2.1, .bool f, .slice A1 m1 c1, .slice A2 m2 c2][j]? = some u → xs[i * 5 + j]? = some u := by
  obtain ⟨A, c, xs, h1, _, h3, h4⟩ := h
  refine ⟨A, c, xs, h1, h3, fun i r hr => ?_⟩
  obtain ⟨vs, _, h5, h6⟩ := h4.get hr
  obtain ⟨A0, c0, k, f, A1, m1, c1, A2, m2, c2, rfl, rfl⟩ := h5.cells
  exact ⟨A0, c0, f, A1, m1, c1, A2, m2, c2, h5, h6⟩
theorem RowP.bound {N : Nat} {H : Heap} {r : List Rat × Int × Rat} {v0 : Value} {f : Bool} {u w : Value} (h : RowP N H [v0, .int .i64 r.2.1, .bool f, u, w] r) : RawV H (.agg #[.bool f, u, w]) r.2.2 N := by
  obtain ⟨c, f', u', w', h1, _, h3⟩ := h
  simp only [List.cons.injEq, Value.bool.injEq, and_true, true_and] at h1
  obtain ⟨rfl, rfl, rfl, rfl⟩ := h1
  exact h3
end Go.Eng
namespace Go.Eng
/-- The block of a slice of the call's own. -/
def blk (v : Value) : List Nat := match v.ownBlock with | some q => [q] | none => []
theorem blk_mem {v : Value} {q : Nat} : q ∈ blk v ↔ v.ownBlock = some q := by
  unfold blk
  cases h : v.ownBlock with
  | none => simp
  | some q' => simp; exact eq_comm
theorem kept_own {H H' : Heap} {gs : List Nat} {v : Value} {e sz n : Nat} {xs : List Value} (h : Kept (blk v ++ gs) H H') (ho : Own (rem H gs) v e sz n xs) : Own (rem H' gs) v e sz n xs ∧ Heap.le (rem H gs) (rem H' gs) ∧ ∀ q, q ∈ gs → H' q = H q := by
  have hs : ∀ q, q ∈ blk v ++ gs → H' q = H q := h.same
  have hv := ho.lift.2
  refine ⟨ho.same fun q hq => ?_, fun q en hq => ?_, fun q hq => hs q (List.mem_append_right _ hq)⟩
  · have : ¬ q ∈ gs := fun hm => hv q hm hq
    rw [rem_out this, rem_out this, hs q (List.mem_append_left _ (blk_mem.2 hq))]
  · by_cases hb : q ∈ blk v
    · by_cases hm : q ∈ gs
      · rw [rem_in hm] at hq; cases hq
      · rw [rem_out hm] at hq
        exact ⟨en, by rw [rem_out hm, hs q (List.mem_append_left _ hb)]; exact hq, .refl en⟩
    · by_cases hm : q ∈ gs
      · rw [rem_in hm] at hq; cases hq
      · have hn : ¬ q ∈ blk v ++ gs := fun h => by
          rcases List.mem_append.1 h with h | h
          · exact hb h
          · exact hm h
        obtain ⟨e', h1, h2⟩ := h.le q en (by rw [rem_out hn]; rwa [rem_out hm] at hq)
        exact ⟨e', by rw [rem_out hm]; rwa [rem_out hn] at h1, h2⟩
theorem own_ne {H : Heap} {gs : List Nat} {v : Value} {e sz n : Nat} {xs : List Value} (hne : ∀ q, q ∈ gs → H q ≠ none) (ho : Own (rem H gs) v e sz n xs) : ∀ q, q ∈ blk v ++ gs → H q ≠ none := fun q hq => by
  rcases List.mem_append.1 hq with h | h
  · obtain ⟨en, he⟩ := ho.lift.1.block (blk_mem.1 h)
    rw [he]; simp
  · exact hne q h
theorem own_slot {K : Heap} {v : Value} {e sz n : Nat} {xs : List Value} (h : Own K v e sz n xs) (hn : 0 < n) : ∃ q c, v = .slice (some ⟨q, 0, none⟩) n c ∧ K q = some ⟨xs, c * sz, e, true⟩ := by
  rcases h.2 with ⟨_, h2⟩ | ⟨g, cap, h1, h2, _⟩
  · omega
  · exact ⟨g, cap, h1, h2⟩
theorem le_blk {H H' : Heap} {gs b : List Nat} (h : Heap.le H (rem H' gs)) (hb : ∀ q, q ∈ b → H q = none) : Heap.le H (rem H' (b ++ gs)) := fun q e hq => by
  obtain ⟨e', h1, h2⟩ := h q e hq
  have hm : ¬ q ∈ gs := fun hm => by rw [rem_in hm] at h1; cases h1
  refine ⟨e', ?_, h2⟩
  rw [rem_out (fun h3 => by
    rcases List.mem_append.1 h3 with h3 | h3
    · rw [hb q h3] at hq; cases hq
    · exact hm h3)]
  rwa [rem_out hm] at h1
theorem le_none {H K : Heap} (h : Heap.le H K) {q : Nat} (hq : K q = none) : H q = none := by
  cases hh : H q with
  | none => rfl
  | some e => (obtain ⟨e', h1, _⟩ := h q e hh; rw [hq] at h1; cases h1)
theorem Grew.blk {K0 K H : Heap} {hdr v : Value} {e sz n : Nat} {xs : List Value} (h : Grew K0 hdr e sz n xs v K) (hl : Heap.le H K0) (hb : ∀ q, q ∈ Eng.blk hdr → H q = none) : ∀ q, q ∈ Eng.blk v → H q = none := fun q hq => by
  rcases h.new q (blk_mem.1 hq) with h1 | h1
  · exact hb q (blk_mem.2 h1)
  · exact le_none hl h1
end Go.Eng
/- Rows and basis of a tableau as they grow. -/
namespace Go.Eng
open Go.Proofs Num Lp
/-- The blocks that are set apart: the rows, the basis, the slacks, the struct. -/
def gsI (rg : List (Nat × Nat)) (bv : Value) (gk g : Nat) : List Nat := rg.map (·.1) ++ (blk bv ++ [gk, g])
def gsJ (rg : List (Nat × Nat)) (gk g : Nat) : List Nat := rg.map (·.1) ++ [gk, g]
/-- .. for the call of row. -/
def gsR (rv : Value) (rg : List (Nat × Nat)) (bv : Value) (gk : Nat) : List Nat := blk rv ++ (rg.map (·.1) ++ (blk bv ++ [gk]))
def hdrR (w : Nat) (p : Nat × Nat) : Value := .slice (some ⟨p.1, 0, none⟩) (w + 1) p.2
theorem mem_gsI {rg : List (Nat × Nat)} {bv : Value} {gk g q : Nat} : q ∈ gsI rg bv gk g ↔ q ∈ rg.map (·.1) ∨ q ∈ blk bv ∨ q = gk ∨ q = g := by
  unfold gsI; simp only [List.mem_append, List.mem_cons, List.not_mem_nil, or_false]
theorem mem_gsJ {rg : List (Nat × Nat)} {gk g q : Nat} : q ∈ gsJ rg gk g ↔ q ∈ rg.map (·.1) ∨ q = gk ∨ q = g := by
  unfold gsJ; simp only [List.mem_append, List.mem_cons, List.not_mem_nil, or_false]
theorem mem_gsR {rg : List (Nat × Nat)} {rv bv : Value} {gk q : Nat} : q ∈ gsR rv rg bv gk ↔ q ∈ blk rv ∨ q ∈ rg.map (·.1) ∨ q ∈ blk bv ∨ q = gk := by
  unfold gsR; simp only [List.mem_append, List.mem_cons, List.not_mem_nil, or_false]
structure St6 (K : Heap) (g gk w : Nat) (A : Nat → Nat → Rat) (unit : Nat → Nat) (H : Heap) (rv : Value) (k : Nat) (hd : List Value) (bv : Value) (kb : Nat) (rg : List (Nat × Nat)) : Prop where
  ne : ∀ q, q ∈ gsI rg bv gk g → H q ≠ none
  nd : (gsI rg bv gk g).Nodup
  le : Heap.le K (rem H (gsI rg bv gk g))
  orv : Own (rem H (gsI rg bv gk g)) rv 85 1 k hd
  rvf : ∀ q, q ∈ blk rv → K q = none
  obv : Own H bv 3 1 kb (ints (fun j => (unit j : Int)) kb)
  row : ∀ (j : Nat) (p : Nat × Nat), rg[j]? = some p → BlkN (rem H (gsI rg bv gk g)) H p.1 (vals (A j) (w + 1))
section
variable {K : Heap} {g gk w : Nat} {A : Nat → Nat → Rat} {unit : Nat → Nat} {H H2 : Heap} {rv : Value} {k : Nat} {hd : List Value} {bv : Value} {kb : Nat} {rg : List (Nat × Nat)}
theorem St6.rvn (h : St6 K g gk w A unit H rv k hd bv kb rg) : ∀ q, q ∈ blk rv → ¬ q ∈ gsI rg bv gk g ∧ H q ≠ none := fun q hq => by
  have h1 := h.orv.lift
  refine ⟨fun hm => h1.2 q hm (blk_mem.1 hq), ?_⟩
  obtain ⟨e, he⟩ := h1.1.block (blk_mem.1 hq)
  rw [he]; simp
theorem St6.neR (h : St6 K g gk w A unit H rv k hd bv kb rg) : ∀ q, q ∈ gsR rv rg bv gk → H q ≠ none := fun q hq => by
  rcases mem_gsR.1 hq with h1 | h1 | h1 | h1
  · exact (h.rvn q h1).2
  · exact h.ne q (mem_gsI.2 (.inl h1))
  · exact h.ne q (mem_gsI.2 (.inr (.inl h1)))
  · exact h.ne q (mem_gsI.2 (.inr (.inr (.inl h1))))
theorem nd_apart {rg : List (Nat × Nat)} {bv : Value} {gk g : Nat} (h : (gsI rg bv gk g).Nodup) : ¬ g ∈ rg.map (·.1) ∧ ¬ g ∈ blk bv ∧ gk ≠ g ∧ (∀ q, q ∈ blk bv → ¬ q ∈ rg.map (·.1) ∧ q ≠ gk) ∧ ¬ gk ∈ rg.map (·.1) := by
  unfold gsI at h
  rw [List.nodup_append, List.nodup_append] at h
  obtain ⟨_, ⟨_, h2, h3⟩, h4⟩ := h
  have h5 : gk ≠ g := by
    rw [List.nodup_cons] at h2
    exact fun e => h2.1 (by rw [e]; exact List.mem_singleton.2 rfl)
  refine ⟨fun hm => h4 g hm g (by simp) rfl, fun hm => h3 g hm g (by simp) rfl, h5, fun q hq => ⟨fun hm => h4 q hm q (List.mem_append_left _ hq) rfl, fun e => h3 q hq gk (by simp) e⟩, fun hm => h4 gk hm gk (by simp) rfl⟩
theorem St6.gR (h : St6 K g gk w A unit H rv k hd bv kb rg) : ¬ g ∈ gsR rv rg bv gk := fun hm => by
  obtain ⟨n1, n2, n3, _⟩ := nd_apart h.nd
  rcases mem_gsR.1 hm with h1 | h1 | h1 | h1
  · exact (h.rvn g h1).1 (mem_gsI.2 (.inr (.inr (.inr rfl))))
  · exact n1 h1
  · exact n2 h1
  · exact n3 h1.symm
/-- A row more. -/
theorem St6.addRow (h : St6 K g gk w A unit H rv k hd bv kb rg) {z c : Nat} {xs : List Value} {sz : Nat} (hs : ∀ q, q ∈ gsR rv rg bv gk → H2 q = H q) (hwk : Work [g] (rem H (gsR rv rg bv gk)) (rem H2 (gsR rv rg bv gk)) z xs sz 90)
    (hel : Els (NumV (rem (rem H2 (gsR rv rg bv gk)) (z :: [g]))) 3 xs (vals (A rg.length) (w + 1))) : St6 K g gk w A unit H2 rv k hd bv kb (rg ++ [(z, c)]) ∧ H2 g = H g ∧ H2 gk = H gk := by
  have hgR := h.gR
  have hg2 : H2 g = H g := by
    have := hwk.same g (List.mem_singleton.2 rfl)
    rwa [rem_out hgR, rem_out hgR] at this
  have hgk2 : H2 gk = H gk := hs gk (mem_gsR.2 (.inr (.inr (.inr rfl))))
  have hzR : ¬ z ∈ gsR rv rg bv gk := fun hm => by have := hwk.blk; rw [rem_in hm] at this; cases this
  have hz2 : H2 z = some ⟨xs, sz, 90, true⟩ := by have := hwk.blk; rwa [rem_out hzR] at this
  have hz0 : H z = none := by have := hwk.zn; rwa [rem_out hzR] at this
  have hzg : z ≠ g := fun e => hwk.zg (List.mem_singleton.2 e)
  have hzI : ¬ z ∈ gsI rg bv gk g := fun hm => h.ne z hm hz0
  have hmem : ∀ q, q ∈ gsI (rg ++ [(z, c)]) bv gk g ↔ q = z ∨ q ∈ gsI rg bv gk g := fun q => by
    rw [mem_gsI, mem_gsI, List.map_append, List.mem_append]
    simp only [List.map_cons, List.map_nil, List.mem_singleton]
    constructor
    · rintro ((h | h) | h | h | h)
      · exact .inr (.inl h)
      · exact .inl h
      · exact .inr (.inr (.inl h))
      · exact .inr (.inr (.inr (.inl h)))
      · exact .inr (.inr (.inr (.inr h)))
    · rintro (h | h | h | h | h)
      · exact .inl (.inr h)
      · exact .inl (.inl h)
      · exact .inr (.inl h)
      · exact .inr (.inr (.inl h))
      · exact .inr (.inr (.inr h))
  have hsI : ∀ q, q ∈ gsI rg bv gk g → H2 q = H q := fun q hq => by
    rcases mem_gsI.1 hq with h1 | h1 | h1 | h1
    · exact hs q (mem_gsR.2 (.inr (.inl h1)))
    · exact hs q (mem_gsR.2 (.inr (.inr (.inl h1))))
    · rw [h1]; exact hgk2
    · rw [h1]; exact hg2
  have hrv : ∀ q, q ∈ blk rv → H2 q = H q := fun q hq => hs q (mem_gsR.2 (.inl hq))
  -- memory behind
  have hle : Heap.le (rem H (gsI rg bv gk g)) (rem H2 (gsI (rg ++ [(z, c)]) bv gk g)) := fun q e hq => by
    have hm : ¬ q ∈ gsI rg bv gk g := fun hm => by rw [rem_in hm] at hq; cases hq
    rw [rem_out hm] at hq
    have hqz : q ≠ z := fun e' => by rw [e', hz0] at hq; cases hq
    have hm2 : ¬ q ∈ gsI (rg ++ [(z, c)]) bv gk g := fun hm2 => by
      rcases (hmem q).1 hm2 with h1 | h1
      · exact hqz h1
      · exact hm h1
    by_cases hb : q ∈ blk rv
    · exact ⟨e, by rw [rem_out hm2, hrv q hb]; exact hq, .refl e⟩
    · have hR : ¬ q ∈ gsR rv rg bv gk := fun hR => by
        rcases mem_gsR.1 hR with h1 | h1 | h1 | h1
        · exact hb h1
        · exact hm (mem_gsI.2 (.inl h1))
        · exact hm (mem_gsI.2 (.inr (.inl h1)))
        · exact hm (mem_gsI.2 (.inr (.inr (.inl h1))))
      have hqg : q ≠ g := fun e' => hm (mem_gsI.2 (.inr (.inr (.inr e'))))
      obtain ⟨e', h1, h2⟩ := hwk.le q e (by rw [rem_out (fun h' => hqg (List.mem_singleton.1 h')), rem_out hR]; exact hq)
      have hzg' : ¬ q ∈ z :: [g] := fun h' => by
        rcases List.mem_cons.1 h' with h' | h'
        · exact hqz h'
        · exact hqg (List.mem_singleton.1 h')
      rw [rem_out hzg', rem_out hR] at h1
      exact ⟨e', by rw [rem_out hm2]; exact h1, h2⟩
  have hnum : Heap.le (rem (rem H2 (gsR rv rg bv gk)) (z :: [g])) (rem H2 (gsI (rg ++ [(z, c)]) bv gk g)) := fun q e hq => by
    have h1 : ¬ q ∈ z :: [g] := fun h' => by rw [rem_in h'] at hq; cases hq
    rw [rem_out h1] at hq
    have h2 : ¬ q ∈ gsR rv rg bv gk := fun h' => by rw [rem_in h'] at hq; cases hq
    rw [rem_out h2] at hq
    refine ⟨e, ?_, .refl e⟩
    rw [rem_out]
    · exact hq
    · intro h3
      rcases (hmem q).1 h3 with h4 | h4
      · exact h1 (by rw [h4]; exact List.mem_cons_self ..)
      · rcases mem_gsI.1 h4 with h5 | h5 | h5 | h5
        · exact h2 (mem_gsR.2 (.inr (.inl h5)))
        · exact h2 (mem_gsR.2 (.inr (.inr (.inl h5))))
        · exact h2 (mem_gsR.2 (.inr (.inr (.inr h5))))
        · exact h1 (by rw [h5]; exact List.mem_cons_of_mem _ (List.mem_singleton.2 rfl))
  refine ⟨⟨fun q hq => ?_, ?_, h.le.trans hle, h.orv.same fun q hq => ?_, h.rvf, h.obv.same fun q hq => hsI q (mem_gsI.2 (.inr (.inl (blk_mem.2 hq)))), fun j p hp => ?_⟩, hg2, hgk2⟩
  · rcases (hmem q).1 hq with h1 | h1
    · rw [h1, hz2]; simp
    · rw [hsI q h1]; exact h.ne q h1
  · have hnd := h.nd
    unfold gsI at hnd ⊢
    rw [List.map_append, List.append_assoc, List.nodup_append] at *
    refine ⟨hnd.1, ?_, fun a ha b hb => ?_⟩
    · simp only [List.map_cons, List.map_nil, List.singleton_append, List.nodup_cons]
      exact ⟨fun hm => hzI (by unfold gsI; exact List.mem_append_right _ hm), hnd.2.1⟩
    · simp only [List.map_cons, List.map_nil, List.singleton_append, List.mem_cons] at hb
      rcases hb with hb | hb
      · intro e
        exact hzI (by unfold gsI; rw [← hb, ← e]; exact List.mem_append_left _ ha)
      · exact hnd.2.2 a ha b (by simpa using hb)
  · have h1 := h.rvn q (blk_mem.2 hq)
    have hqz : q ≠ z := fun e => h1.2 (by rw [e]; exact hz0)
    rw [rem_out h1.1, rem_out (fun h2 => by
      rcases (hmem q).1 h2 with h3 | h3
      · exact hqz h3
      · exact h1.1 h3), hrv q (blk_mem.2 hq)]
  · by_cases hj : j < rg.length
    · rw [List.getElem?_append_left hj] at hp
      exact (h.row j p hp).le hle (hsI _ (mem_gsI.2 (.inl (List.mem_map.2 ⟨p, List.mem_of_getElem? hp, rfl⟩))))
    · rw [List.getElem?_append_right (by omega)] at hp
      have hj0 : j - rg.length = 0 := by
        have := (List.getElem?_eq_some_iff.1 hp).1
        simp at this; omega
      rw [hj0] at hp
      simp only [List.getElem?_cons_zero, Option.some.injEq] at hp
      subst hp
      have : j = rg.length := by omega
      rw [this]
      exact ⟨xs, sz, hz2, hel.mono fun vs a => numUp _ _ vs a hnum⟩
/-- The header of the rows has grown. -/
theorem St6.growR (h : St6 K g gk w A unit H rv k hd bv kb rg) {rv' : Value} {k' : Nat} {hd' : List Value} (hG : Grew (rem H (gsI rg bv gk g)) rv 85 1 k' hd' rv' (rem H2 (gsI rg bv gk g))) (hs : ∀ q, q ∈ gsI rg bv gk g → q ≠ g → H2 q = H q) (hg : H2 g ≠ none) : St6 K g gk w A unit H2 rv' k' hd' bv kb rg := by
  obtain ⟨n1, n2, n3, n4, n5⟩ := nd_apart h.nd
  refine ⟨fun q hq => ?_, h.nd, h.le.trans hG.le, hG.own, hG.blk h.le h.rvf, h.obv.same fun q hq => ?_, fun j p hp => ?_⟩
  · by_cases e : q = g
    · rw [e]; exact hg
    · rw [hs q hq e]; exact h.ne q hq
  · have := blk_mem.2 hq
    exact hs q (mem_gsI.2 (.inr (.inl this))) (fun e => n2 (by rw [← e]; exact this))
  · have hm : p.1 ∈ rg.map (·.1) := List.mem_map.2 ⟨p, List.mem_of_getElem? hp, rfl⟩
    exact (h.row j p hp).le hG.le (hs _ (mem_gsI.2 (.inl hm)) (fun e => n1 (by rw [← e]; exact hm)))
/-- The basis has grown. -/
theorem St6.growB (h : St6 K g gk w A unit H rv k hd bv kb rg) {bv' : Value} (hG : Grew (rem H (gsJ rg gk g)) bv 3 1 (kb + 1) (ints (fun j => (unit j : Int)) (kb + 1)) bv' (rem H2 (gsJ rg gk g))) (hs : ∀ q, q ∈ gsJ rg gk g → q ≠ g → H2 q = H q) (hg : H2 g ≠ none) : St6 K g gk w A unit H2 rv k hd bv' (kb + 1) rg := by
  obtain ⟨n1, n2, n3, n4, n5⟩ := nd_apart h.nd
  have hJI : ∀ q, q ∈ gsJ rg gk g → q ∈ gsI rg bv gk g := fun q hq => by
    rcases mem_gsJ.1 hq with h1 | h1 | h1
    · exact mem_gsI.2 (.inl h1)
    · exact mem_gsI.2 (.inr (.inr (.inl h1)))
    · exact mem_gsI.2 (.inr (.inr (.inr h1)))
  have hneJ : ∀ q, q ∈ gsJ rg gk g → H2 q ≠ none := fun q hq => by
    by_cases e : q = g
    · rw [e]; exact hg
    · rw [hs q hq e]; exact h.ne q (hJI q hq)
  have hb' := hG.own.lift
  have hbJ : ∀ q, q ∈ blk bv' → ¬ q ∈ gsJ rg gk g := fun q hq hm => hb'.2 q hm (blk_mem.1 hq)
  have hnew : ∀ q, q ∈ blk bv' → q ∈ blk bv ∨ H q = none := fun q hq => by
    rcases hG.new q (blk_mem.1 hq) with h1 | h1
    · exact .inl (blk_mem.2 h1)
    · exact .inr (by rwa [rem_out (hbJ q hq)] at h1)
  have hle : Heap.le (rem H (gsI rg bv gk g)) (rem H2 (gsI rg bv' gk g)) := fun q e hq => by
    have hm : ¬ q ∈ gsI rg bv gk g := fun hm => by rw [rem_in hm] at hq; cases hq
    rw [rem_out hm] at hq
    have hJ : ¬ q ∈ gsJ rg gk g := fun h1 => hm (hJI q h1)
    obtain ⟨e', h1, h2⟩ := hG.le q e (by rw [rem_out hJ]; exact hq)
    rw [rem_out hJ] at h1
    refine ⟨e', ?_, h2⟩
    rw [rem_out]
    · exact h1
    · intro h3
      rcases mem_gsI.1 h3 with h4 | h4 | h4
      · exact hm (mem_gsI.2 (.inl h4))
      · rcases hnew q h4 with h5 | h5
        · exact hm (mem_gsI.2 (.inr (.inl h5)))
        · rw [h5] at hq; cases hq
      · exact hm (mem_gsI.2 (.inr (.inr h4)))
  have hrvJ : Own (rem H (gsJ rg gk g)) rv 85 1 k hd := h.orv.same fun q hq => by
    have h1 := (h.rvn q (blk_mem.2 hq)).1
    rw [rem_out h1, rem_out (fun h2 => h1 (hJI q h2))]
  have hap : Apart bv rv := fun q h1 h2 => (h.rvn q (blk_mem.2 h2)).1 (mem_gsI.2 (.inr (.inl (blk_mem.2 h1))))
  obtain ⟨hrv2, hap2⟩ := hG.keep _ _ _ _ _ hrvJ hap
  refine ⟨fun q hq => ?_, ?_, h.le.trans hle, hrv2.same fun q hq => ?_, h.rvf, hb'.1, fun j p hp => ?_⟩
  · rcases mem_gsI.1 hq with h1 | h1 | h1
    · exact hneJ q (mem_gsJ.2 (.inl h1))
    · obtain ⟨e, he⟩ := hb'.1.block (blk_mem.1 h1)
      rw [he]; simp
    · exact hneJ q (mem_gsJ.2 (.inr h1))
  · have hnd := h.nd
    unfold gsI at hnd ⊢
    rw [List.nodup_append, List.nodup_append] at *
    refine ⟨hnd.1, ⟨?_, hnd.2.1.2.1, fun a ha b hb e => ?_⟩, fun a ha b hb e => ?_⟩
    · unfold blk; split <;> simp
    · refine hbJ a ha (mem_gsJ.2 (.inr ?_))
      rw [e]; simpa using hb
    · rcases List.mem_append.1 hb with h1 | h1
      · exact hbJ b h1 (mem_gsJ.2 (.inl (by rw [← e]; exact ha)))
      · exact hnd.2.2 a ha b (List.mem_append_right _ h1) e
  · have h1 : ¬ q ∈ gsJ rg gk g := fun h1 => hrv2.lift.2 q h1 hq
    rw [rem_out h1, rem_out]
    intro h2
    rcases mem_gsI.1 h2 with h3 | h3 | h3
    · exact h1 (mem_gsJ.2 (.inl h3))
    · exact hap2 q (blk_mem.1 h3) hq
    · exact h1 (mem_gsJ.2 (.inr h3))
  · have hm : p.1 ∈ rg.map (·.1) := List.mem_map.2 ⟨p, List.mem_of_getElem? hp, rfl⟩
    exact (h.row j p hp).le hle (hs _ (mem_gsJ.2 (.inl hm)) (fun e => n1 (by rw [← e]; exact hm)))
theorem St6.bvJ (h : St6 K g gk w A unit H rv k hd bv kb rg) : Own (rem H (gsJ rg gk g)) bv 3 1 kb (ints (fun j => (unit j : Int)) kb) := by
  obtain ⟨n1, n2, n3, n4, n5⟩ := nd_apart h.nd
  refine h.obv.same fun q hq => ?_
  have hb := blk_mem.2 hq
  rw [rem_out]
  intro h1
  rcases mem_gsJ.1 h1 with h2 | h2 | h2
  · exact (n4 q hb).1 h2
  · exact (n4 q hb).2 h2
  · exact n2 (by rw [← h2]; exact hb)
theorem St6.leR (h : St6 K g gk w A unit H rv k hd bv kb rg) : Heap.le K (rem (rem H (gsR rv rg bv gk)) [g]) := fun q e hq => by
  obtain ⟨e', h1, h2⟩ := h.le q e hq
  have hm : ¬ q ∈ gsI rg bv gk g := fun hm => by rw [rem_in hm] at h1; cases h1
  rw [rem_out hm] at h1
  refine ⟨e', ?_, h2⟩
  rw [rem_out (fun h3 => hm (mem_gsI.2 (.inr (.inr (.inr (List.mem_singleton.1 h3)))))), rem_out]
  · exact h1
  · intro h3
    rcases mem_gsR.1 h3 with h4 | h4 | h4 | h4
    · rw [h.rvf q h4] at hq; cases hq
    · exact hm (mem_gsI.2 (.inl h4))
    · exact hm (mem_gsI.2 (.inr (.inl h4)))
    · exact hm (mem_gsI.2 (.inr (.inr (.inl h4))))
end
end Go.Eng
/- The layout's bounds; the finished tableau. -/
namespace Go.Eng
open Go.Proofs Num Lp
section
variable (p : Prg)
theorem lay_pF {j : Nat} (h : j < p.lp.n) : p.lay.pF j = colc p.lp.free j := by
  simp [TL.pF, Prg.lay, List.getD, h]
theorem lay_mZ {j : Nat} (h : j < p.lp.n) : p.lay.mZ j = mnz p.lp.free j := by
  simp [TL.mZ, Prg.lay, List.getD, h]
theorem c1_u : p.c1 ≤ p.u := (slc_le p.lp.rel p.c1 p.lp.m).2
theorem u_w : p.u ≤ p.w := (unc_le p.lp.rel p.sgN p.u p.lp.m).2
theorem colc_lt {j : Nat} (h : j < p.lp.n) : colc p.lp.free j < p.c1 := by
  have := colc_mono (fr := p.lp.free) h
  have e : p.c1 = colc p.lp.free p.lp.n := rfl
  omega
theorem mnz_lt {j : Nat} (h : j < p.lp.n) : mnz p.lp.free j < p.c1 := by
  have := colc_mono (fr := p.lp.free) h
  have e : p.c1 = colc p.lp.free p.lp.n := rfl
  unfold mnz
  by_cases hf : p.lp.free j
  · rw [if_pos hf] at this ⊢; omega
  · rw [if_neg hf]; omega
theorem slz_lt {i : Nat} (h : i < p.lp.m) (hr : p.lp.rel i ≠ 2) : (p.c1 : Int) ≤ slz p.lp.rel p.c1 i ∧ slz p.lp.rel p.c1 i < p.u := by
  have h1 := slc_mono (rel := p.lp.rel) (c := p.c1) h
  have h2 := (slc_le p.lp.rel p.c1 i).2
  rw [if_neg hr] at h1
  have e : p.u = slc p.lp.rel p.c1 p.lp.m := rfl
  unfold slz
  rw [if_neg hr]; omega
theorem unit_lt {i : Nat} (h : i < p.lp.m) : p.unit i < p.w := by
  have h3 := u_w p
  show unt _ _ _ _ _ < _
  unfold unt
  by_cases ho : ownB (p.lp.rel i) (p.sgN i) = true
  · rw [if_pos ho]
    have hr : p.lp.rel i ≠ 2 := by
      unfold ownB at ho
      rw [decide_eq_true_eq] at ho
      omega
    have := slz_lt p h hr
    unfold slz at this
    rw [if_neg hr] at this
    omega
  · rw [if_neg ho]
    have := unc_mono (rel := p.lp.rel) (sg := p.sgN) (u := p.u) h
    rw [if_neg ho] at this
    have e : p.w = unc p.lp.rel p.sgN p.u p.lp.m := rfl
    omega
theorem w_le : p.w ≤ 2 * p.lp.n + 2 * p.lp.m := by
  have h1 := (unc_le p.lp.rel p.sgN p.u p.lp.m).1
  have h2 := (slc_le p.lp.rel p.c1 p.lp.m).1
  have h3 := colc_le p.lp.free p.lp.n
  have e1 : p.w = unc p.lp.rel p.sgN p.u p.lp.m := rfl
  have e2 : p.u = slc p.lp.rel p.c1 p.lp.m := rfl
  have e3 : p.c1 = colc p.lp.free p.lp.n := rfl
  omega
/-- A row of the first tableau, by the program's row. -/
theorem tab0_row {i : Nat} {r : List Rat × Int × Rat} (h : p.rows[i]? = some r) : p.tab0.A i = rowF p.lay p.lp.n (fn r.1) r.2.2 r.2.1 (slz p.lp.rel p.c1 i) (p.unit i) (p.sgN i : Rat) := by
  show rowF p.lay p.lp.n (fn (p.row i).1) (p.row i).2.2 (p.row i).2.1 _ _ _ = _
  rw [Prg.row_get h]
end
theorem St6.tab {K H : Heap} {g gk : Nat} {p : Prg} {rv bv pv mv uv sv : Value} {rg : List (Nat × Nat)} (h : St6 K g gk p.w p.tab0.A p.unit H rv p.lp.m (rg.map (hdrR p.w)) bv p.lp.m rg) (hl : rg.length = p.lp.m)
    (hg : H g = some ⟨[.int .i64 (p.w : Int), .int .i64 (p.u : Int), pv, mv, uv, sv, rv, .slice none 0 0, bv], 9, 97, true⟩) (hpv : SlV NatP 1 K pv p.lay.plus) (hmv : SlV IntP 1 K mv p.lay.minus) (huv : SlV NatP 1 K uv p.lay.units) (hsv : SlV NumV 3 K sv p.lay.signs) :
    ∃ G : TG, Value.pointer (some ⟨g, 0, none⟩) = .pointer (some ⟨G.g, 0, none⟩) ∧ TabV H G p.lay p.tab0 ∧ G.cb = [] ∧ Heap.le K (rem H G.gs) := by
  obtain ⟨Ar, cr, rfl⟩ := h.orv.form
  obtain ⟨n1, n2, n3, n4, n5⟩ := nd_apart h.nd
  have hnd := h.nd
  unfold gsI at hnd
  rw [List.nodup_append, List.nodup_append] at hnd
  let G : TG := ⟨g, cr, Ar, pv, mv, uv, sv, .slice none 0 0, bv, rg, [], blk bv⟩
  have hmem : ∀ q, q ∈ G.gs → q ∈ gsI rg bv gk g := fun q hq => by
    rcases List.mem_cons.1 hq with h1 | h1
    · exact mem_gsI.2 (.inr (.inr (.inr h1)))
    · rcases List.mem_append.1 h1 with h2 | h2
      · cases h2
      · rcases List.mem_append.1 h2 with h3 | h3
        · exact mem_gsI.2 (.inr (.inl h3))
        · exact mem_gsI.2 (.inl h3)
  have hle : Heap.le (rem H (gsI rg bv gk g)) (rem H G.gs) := fun q e hq => by
    have hm : ¬ q ∈ gsI rg bv gk g := fun hm => by rw [rem_in hm] at hq; cases hq
    rw [rem_out hm] at hq
    exact ⟨e, by rw [rem_out (fun h' => hm (hmem q h'))]; exact hq, .refl e⟩
  have hK := h.le.trans hle
  refine ⟨G, rfl, ⟨rfl, u_w p, hg, ?_, hl, ⟨_, h.orv.rd.le hle, fun i q hq => ?_⟩, fun i q hq => (h.row i q hq).le hle rfl, ?_, hpv.le natUp hK, hmv.le intUp hK, huv.le natUp hK, hsv.le numUp hK, fun q hq => by cases hq⟩, rfl, hK⟩
  · show (g :: ([] ++ (blk bv ++ rg.map (·.1)))).Nodup
    rw [List.nil_append, List.nodup_cons, List.nodup_append]
    refine ⟨fun hm => ?_, hnd.2.1.1, hnd.1, fun a ha b hb e => (n4 a ha).1 (by rw [e]; exact hb)⟩
    rcases List.mem_append.1 hm with h1 | h1
    · exact n2 h1
    · exact n1 h1
  · rw [List.getElem?_map, show rg[i]? = some q from hq]; rfl
  · rcases h.obv.2 with ⟨h1, h2⟩ | ⟨gb, cb, h1, h2, _⟩
    · refine .inl ⟨h2, ?_, h1⟩
      show blk bv = []
      rw [h1]; rfl
    · refine .inr ⟨gb, cb, _, ?_, h1, h2⟩
      show blk bv = [gb]
      rw [h1]; rfl
theorem St6.new {H : Heap} {g gk w : Nat} {A : Nat → Nat → Rat} {unit : Nat → Nat} (hne : ∀ q, q ∈ [gk, g] → H q ≠ none) (h : gk ≠ g) : St6 (rem H [gk, g]) g gk w A unit H (.slice none 0 0) 0 [] (.slice none 0 0) 0 [] :=
  ⟨hne, (by show [gk, g].Nodup; simp [h]), .refl _, own_nil _ _ _, (fun q hq => by cases hq), own_nil _ _ _, (fun j p hp => by simp at hp)⟩
theorem Own.nums {K K' : Heap} {v : Value} {f : Nat → Rat} {k : Nat} {ys : List Value} (h : Own K v 90 3 k ys) (hy : ∀ K : Heap, Els (NumV K) 3 ys (vals f k)) (hl : Heap.le K K') : SlV NumV 3 K' v (vals f k) := by
  obtain ⟨A, c, rfl⟩ := h.form
  refine ⟨A, c, _, by rw [vals_len], ?_, h.rd.le hl, hy _⟩
  rw [vals_len]
  rcases h.2 with ⟨k1, k2⟩ | ⟨g, cap, k1, _, k3, _⟩
  · omega
  · cases k1; exact k3
theorem sz_sign {s : Int} (h : s = 1 ∨ s = -1) : szQ (s : Rat) ≤ 1 := by
  rcases h with h | h <;> subst h <;> decide
theorem one_sl (A : Option Addr) (k c : Nat) : ∀ u, u ∈ [Value.slice A k c] → u.oneCell' = true := fun u hu => by rw [List.mem_singleton] at hu; rw [hu]; rfl
end Go.Eng
/- The first tableau of a program stands for it. -/
namespace Go.Eng
open Go.Proofs Num Lp
theorem upd_at (f : Nat → Rat) (k : Nat) (v : Rat) : upd f k v k = v := by simp [upd]
theorem upd_ne {f : Nat → Rat} {k j : Nat} {v : Rat} (h : j ≠ k) : upd f k v j = f j := by simp [upd, h]
section
variable {p : Prg}
theorem rwk_out {a : Nat → Rat} {sg : Rat} {k x : Nat} (hk : k ≤ p.lp.n) (hx : colc p.lp.free k ≤ x) : rwk p.lay a sg k x = 0 := by
  induction k with
  | zero => rfl
  | succ k ih =>
    have h1 : colc p.lp.free (k + 1) = colc p.lp.free k + 1 + (if p.lp.free k then 1 else 0) := rfl
    rw [rwk_succ, lay_pF p (by omega), lay_mZ p (by omega)]
    unfold mnz
    by_cases hf : p.lp.free k = true
    · rw [if_pos hf] at h1
      rw [if_pos hf, if_pos (by omega), upd_ne (by rw [Int.toNat_natCast]; omega), upd_ne (by omega)]
      exact ih (by omega) (by omega)
    · rw [if_neg hf] at h1
      rw [if_neg hf, if_neg (by omega), upd_ne (by omega)]
      exact ih (by omega) (by omega)
theorem rwk_plus {a : Nat → Rat} {sg : Rat} {k j : Nat} (hk : k ≤ p.lp.n) (hj : j < k) : rwk p.lay a sg k (colc p.lp.free j) = a j * sg ∧ (p.lp.free j = true → rwk p.lay a sg k (colc p.lp.free j + 1) = -(a j * sg)) := by
  induction k with
  | zero => omega
  | succ k ih =>
    rw [rwk_succ, lay_pF p (by omega), lay_mZ p (by omega)]
    unfold mnz
    by_cases e : j = k
    · subst e
      by_cases hf : p.lp.free j = true
      · rw [if_pos hf, if_pos (by omega), Int.toNat_natCast]
        refine ⟨?_, fun _ => upd_at _ _ _⟩
        rw [upd_ne (by omega), upd_at]
      · rw [if_neg hf, if_neg (by omega), upd_at]
        exact ⟨rfl, fun h => absurd h hf⟩
    · have hm := colc_mono (fr := p.lp.free) (show j < k by omega)
      have ih' := ih (by omega) (by omega)
      by_cases hf : p.lp.free k = true
      · rw [if_pos hf, if_pos (by omega), Int.toNat_natCast]
        refine ⟨?_, fun h => ?_⟩
        · rw [upd_ne (by omega), upd_ne (by omega)]; exact ih'.1
        · rw [if_pos h] at hm
          rw [upd_ne (by omega), upd_ne (by omega)]; exact ih'.2 h
      · rw [if_neg hf, if_neg (by omega)]
        refine ⟨?_, fun h => ?_⟩
        · rw [upd_ne (by omega)]; exact ih'.1
        · rw [if_pos h] at hm
          rw [upd_ne (by omega)]; exact ih'.2 h
theorem unit_ge {i : Nat} : p.c1 ≤ p.unit i := by
  show _ ≤ unt _ _ _ _ _
  unfold unt
  split
  · exact (slc_le _ _ _).2
  · exact Nat.le_trans (c1_u p) (unc_le _ _ _ _).2
theorem own_rel {i : Nat} (h : ownB (p.lp.rel i) (p.sgN i) = true) : (p.lp.rel i = 1 ∧ p.sgN i = 1) ∨ (p.lp.rel i = 3 ∧ p.sgN i = -1) := by
  unfold ownB at h
  rwa [decide_eq_true_eq] at h
theorem unit_own {i : Nat} (h : ownB (p.lp.rel i) (p.sgN i) = true) : p.unit i = slc p.lp.rel p.c1 i := by
  show unt _ _ _ _ _ = _; unfold unt; rw [if_pos h]
theorem unit_new {i : Nat} (h : ¬ ownB (p.lp.rel i) (p.sgN i) = true) : p.unit i = unc p.lp.rel p.sgN p.u i := by
  show unt _ _ _ _ _ = _; unfold unt; rw [if_neg h]
theorem slc_ne {rel : Nat → Int} {c i q : Nat} (hi : rel i ≠ 2) (hq : rel q ≠ 2) (h : q ≠ i) : slc rel c q ≠ slc rel c i := by
  rcases Nat.lt_or_gt_of_ne h with h | h
  · have := slc_mono (rel := rel) (c := c) h
    rw [if_neg hq] at this; omega
  · have := slc_mono (rel := rel) (c := c) h
    rw [if_neg hi] at this; omega
theorem slc_lt {i : Nat} (hi : i < p.lp.m) (hr : p.lp.rel i ≠ 2) : slc p.lp.rel p.c1 i < p.u := by
  have := slz_lt p hi hr
  unfold slz at this
  rw [if_neg hr] at this
  omega
/-- The units of two rows differ. -/
theorem unit_ne {i q : Nat} (hi : i < p.lp.m) (hq : q < p.lp.m) (h : q ≠ i) : p.unit q ≠ p.unit i := by
  by_cases oi : ownB (p.lp.rel i) (p.sgN i) = true
  · have ri : p.lp.rel i ≠ 2 := by have := own_rel oi; omega
    by_cases oq : ownB (p.lp.rel q) (p.sgN q) = true
    · have rq : p.lp.rel q ≠ 2 := by have := own_rel oq; omega
      rw [unit_own oi, unit_own oq]; exact slc_ne ri rq h
    · rw [unit_own oi, unit_new oq]
      have := slc_lt hi ri
      have := (unc_le p.lp.rel p.sgN p.u q).2
      omega
  · by_cases oq : ownB (p.lp.rel q) (p.sgN q) = true
    · have rq : p.lp.rel q ≠ 2 := by have := own_rel oq; omega
      rw [unit_new oi, unit_own oq]
      have := slc_lt hq rq
      have := (unc_le p.lp.rel p.sgN p.u i).2
      omega
    · rw [unit_new oi, unit_new oq]
      rcases Nat.lt_or_gt_of_ne h with h | h
      · have := unc_mono (rel := p.lp.rel) (sg := p.sgN) (u := p.u) h
        rw [if_neg oq] at this; omega
      · have := unc_mono (rel := p.lp.rel) (sg := p.sgN) (u := p.u) h
        rw [if_neg oi] at this; omega
/-- A slack's column is no unit of another row. -/
theorem unit_slc {i q : Nat} (hi : i < p.lp.m) (ri : p.lp.rel i ≠ 2) (h : q ≠ i) : p.unit q ≠ slc p.lp.rel p.c1 i := by
  by_cases oq : ownB (p.lp.rel q) (p.sgN q) = true
  · have rq : p.lp.rel q ≠ 2 := by have := own_rel oq; omega
    rw [unit_own oq]; exact slc_ne ri rq h
  · rw [unit_new oq]
    have := slc_lt hi ri
    have := (unc_le p.lp.rel p.sgN p.u q).2
    omega
theorem tab0_A (i : Nat) : p.tab0.A i = upd (upd (rwS (rwk p.lay (p.lp.a i) (p.sgN i : Rat) p.lp.n) (p.lp.rel i) (slz p.lp.rel p.c1 i) (p.sgN i : Rat)) (p.unit i) 1) p.w (p.lp.b i * (p.sgN i : Rat)) := rfl
theorem rwS_ne {f : Nat → Rat} {rel slack : Int} {sg : Rat} {x : Nat} (h : rel ≠ 2 → x ≠ slack.toNat) : rwS f rel slack sg x = f x := by
  unfold rwS
  split
  · exact upd_ne (h (by omega))
  · split
    · exact upd_ne (h (by omega))
    · rfl
theorem slz_nat {i : Nat} (hr : p.lp.rel i ≠ 2) : (slz p.lp.rel p.c1 i).toNat = slc p.lp.rel p.c1 i := by
  unfold slz; rw [if_neg hr, Int.toNat_natCast]
/-- A column of the program. -/
theorem A_low {i x : Nat} (hx : x < p.c1) : p.tab0.A i x = rwk p.lay (p.lp.a i) (p.sgN i : Rat) p.lp.n x := by
  have h1 := c1_u p
  have h2 := u_w p
  have h3 := unit_ge (p := p) (i := i)
  rw [tab0_A, upd_ne (by omega), upd_ne (by omega), rwS_ne]
  intro hr
  rw [slz_nat hr]
  have := (slc_le p.lp.rel p.c1 i).2
  omega
theorem A_plus {i j : Nat} (hj : j < p.lp.n) : p.tab0.A i (colc p.lp.free j) = p.lp.a i j * (p.sgN i : Rat) := by
  rw [A_low (colc_lt p hj)]; exact (rwk_plus (Nat.le_refl _) hj).1
theorem A_minus {i j : Nat} (hj : j < p.lp.n) (hf : p.lp.free j = true) : p.tab0.A i (colc p.lp.free j + 1) = -(p.lp.a i j * (p.sgN i : Rat)) := by
  have := mnz_lt p hj
  unfold mnz at this
  rw [if_pos hf] at this
  rw [A_low (by omega)]; exact (rwk_plus (Nat.le_refl _) hj).2 hf
theorem A_slack {i q : Nat} (hi : i < p.lp.m) (hv : p.lp.rel i = 1 ∨ p.lp.rel i = 3) : p.tab0.A q (slc p.lp.rel p.c1 i) = if q = i then (if p.lp.rel i = 1 then (p.sgN i : Rat) else -(p.sgN i : Rat)) else 0 := by
  have hr : p.lp.rel i ≠ 2 := by omega
  have h1 := slc_lt hi hr
  have h2 := u_w p
  have h3 := (slc_le p.lp.rel p.c1 i).2
  rw [tab0_A, upd_ne (by omega)]
  by_cases e : q = i
  · subst e
    rw [if_pos rfl]
    by_cases o : ownB (p.lp.rel q) (p.sgN q) = true
    · rw [unit_own o, upd_at]
      rcases own_rel o with ⟨k1, k2⟩ | ⟨k1, k2⟩
      · rw [if_pos k1, k2]; rfl
      · rw [if_neg (by omega), k2]; grind
    · rw [upd_ne (by rw [unit_new o]; have := (unc_le p.lp.rel p.sgN p.u q).2; omega)]
      unfold rwS
      rw [slz_nat hr]
      by_cases k1 : p.lp.rel q = 1
      · rw [if_pos k1, if_pos k1, upd_at]
      · rw [if_neg k1, if_neg k1, if_pos (by omega), upd_at]
  · rw [if_neg e, upd_ne (Ne.symm (unit_slc hi hr e)), rwS_ne (fun hq => by rw [slz_nat hq]; exact Ne.symm (slc_ne hr hq e))]
    exact rwk_out (Nat.le_refl _) h3
theorem A_unit {i q : Nat} (hi : i < p.lp.m) (hq : q < p.lp.m) : p.tab0.A q (p.unit i) = if q = i then 1 else 0 := by
  have h1 := unit_lt p hi
  rw [tab0_A, upd_ne (by omega)]
  by_cases e : q = i
  · subst e
    rw [if_pos rfl, upd_at]
  · rw [if_neg e, upd_ne (Ne.symm (unit_ne hi hq e)), rwS_ne]
    · exact rwk_out (Nat.le_refl _) unit_ge
    · intro rq
      rw [slz_nat rq]
      exact unit_slc hq rq (Ne.symm e)
theorem A_rhs (i : Nat) : p.tab0.A i p.w = p.lp.b i * (p.sgN i : Rat) ∧ 0 ≤ p.tab0.A i p.w := by
  have h : p.tab0.A i p.w = p.lp.b i * (p.sgN i : Rat) := by rw [tab0_A, upd_at]
  refine ⟨h, ?_⟩
  rw [h]
  show 0 ≤ p.lp.b i * ((sgi (p.lp.b i) (p.lp.rel i) : Int) : Rat)
  unfold sgi
  split
  · rename_i hc
    have : p.lp.b i ≤ 0 := by rcases hc with hc | hc <;> grind
    show 0 ≤ p.lp.b i * ((-1 : Int) : Rat)
    grind
  · rename_i hc
    have : 0 ≤ p.lp.b i := by
      have : ¬ p.lp.b i < 0 := fun h => hc (.inl h)
      grind
    show 0 ≤ p.lp.b i * ((1 : Int) : Rat)
    grind
/-- The slack of a row, if it has one. -/
def _root_.Lp.Prg.slk (p : Prg) (i : Nat) : Option Nat := if p.lp.rel i = 2 then none else some (slc p.lp.rel p.c1 i)
theorem lay_mF {j : Nat} (h : j < p.lp.n) : p.lay.mF j = if p.lp.free j then some (colc p.lp.free j + 1) else none := by
  unfold TL.mF
  rw [lay_mZ p h]
  unfold mnz
  by_cases hf : p.lp.free j = true
  · rw [if_pos hf, if_pos hf, if_pos (by omega), Int.toNat_natCast]
  · rw [if_neg hf, if_neg hf, if_neg (by omega)]
theorem lay_uF {i : Nat} (h : i < p.lp.m) : p.lay.uF i = p.unit i := by
  simp [TL.uF, Prg.lay, List.getD, h]
theorem lay_sF {i : Nat} (h : i < p.lp.m) : p.lay.sF i = (p.sgN i : Rat) := by
  have : p.lay.signs[i]? = some ((p.sgN i : Int) : Rat) := vals_get (f := fun i => (p.sgN i : Rat)) h
  exact fn_get this
theorem sum_cols (f : Nat → Rat) {k : Nat} (hk : k ≤ p.lp.n) : sumN (colc p.lp.free k) f = sumN k (fun j => f (p.lay.pF j) + optv f (p.lay.mF j)) := by
  induction k with
  | zero => rfl
  | succ k ih =>
    have h1 : colc p.lp.free (k + 1) = colc p.lp.free k + 1 + (if p.lp.free k then 1 else 0) := rfl
    rw [sumN_succ, ← ih (by omega), lay_pF p (by omega), lay_mF (by omega)]
    by_cases hf : p.lp.free k = true
    · rw [if_pos hf] at h1 ⊢
      rw [h1, sumN_succ, sumN_succ]
      simp only [optv]; grind
    · rw [if_neg hf] at h1 ⊢
      rw [h1, Nat.add_zero, sumN_succ]
      simp only [optv]; grind
theorem sum_slk (f : Nat → Rat) (k : Nat) : sumN (slc p.lp.rel p.c1 k) f = sumN p.c1 f + sumN k (fun i => optv f (p.slk i)) := by
  induction k with
  | zero => rw [sumN_zero, Rat.add_zero]; rfl
  | succ k ih =>
    have h1 : slc p.lp.rel p.c1 (k + 1) = slc p.lp.rel p.c1 k + (if p.lp.rel k = 2 then 0 else 1) := rfl
    rw [sumN_succ]
    by_cases hr : p.lp.rel k = 2
    · rw [if_pos hr] at h1
      have : p.slk k = none := by unfold Prg.slk; rw [if_pos hr]
      rw [h1, Nat.add_zero, this, ih]
      simp only [optv]; grind
    · rw [if_neg hr] at h1
      have : p.slk k = some (slc p.lp.rel p.c1 k) := by unfold Prg.slk; rw [if_neg hr]
      rw [h1, this, sumN_succ, ih]
      simp only [optv]; grind
theorem lay_ok (hok : p.Ok) : Lay p.lp p.tab0.A p.w p.u p.lay.pF p.lay.mF p.slk p.lay.uF p.lay.sF where
  valid := hok.valid
  uw := u_w p
  sg1 i hi := by
    rw [lay_sF hi]
    rcases sgi_or (p.lp.b i) (p.lp.rel i) with h | h
    · left; show ((sgi _ _ : Int) : Rat) = 1; rw [h]; rfl
    · right; show ((sgi _ _ : Int) : Rat) = -1; rw [h]; rfl
  rhs i hi := by rw [lay_sF hi]; exact A_rhs i
  pl j hj := by
    rw [lay_pF p hj]
    refine ⟨Nat.lt_of_lt_of_le (colc_lt p hj) (c1_u p), fun i hi => ?_⟩
    rw [lay_sF hi]; exact A_plus hj
  mi j hj := by
    rw [lay_mF hj]
    refine ⟨fun h => by rw [h]; rfl, fun k hk => ?_⟩
    by_cases hf : p.lp.free j = true
    · rw [if_pos hf] at hk
      cases hk
      have h1 := mnz_lt p hj
      unfold mnz at h1
      rw [if_pos hf] at h1
      have h2 := c1_u p
      refine ⟨by omega, fun i hi => ?_⟩
      rw [lay_sF hi]; exact A_minus hj hf
    · rw [if_neg hf] at hk; cases hk
  mif j hj hf := by
    rw [lay_mF hj, if_pos hf]; exact ⟨_, rfl⟩
  sl i hi := by
    refine ⟨fun h => by unfold Prg.slk; rw [if_pos h], fun h => ⟨_, by unfold Prg.slk; rw [if_neg h]⟩, fun k hk => ?_⟩
    unfold Prg.slk at hk
    by_cases hr : p.lp.rel i = 2
    · rw [if_pos hr] at hk; cases hk
    · rw [if_neg hr] at hk
      cases hk
      refine ⟨slc_lt hi hr, fun q hq => ?_⟩
      rw [lay_sF hi]
      exact A_slack hi (by have := hok.valid i hi; omega)
  un i hi := by
    rw [lay_uF hi]
    exact ⟨unit_lt p hi, fun q hq => A_unit hi hq⟩
  sum f := by
    have h1 : p.u = slc p.lp.rel p.c1 p.lp.m := rfl
    rw [h1, sum_slk, show p.c1 = colc p.lp.free p.lp.n from rfl, sum_cols f (Nat.le_refl _)]
theorem lay_tl : p.lay.Ok p.lp.n p.lp.m where
  plen := by simp [Prg.lay]
  mlen := by simp [Prg.lay]
  ulen := by simp [Prg.lay]
  slen := vals_len _ _
  pw j hj := by
    rw [lay_pF p hj]
    have := colc_lt p hj; have := c1_u p; have := u_w p
    show _ < p.w; omega
  mw j hj := by
    rw [lay_mZ p hj]
    have := mnz_lt p hj; have := c1_u p; have := u_w p
    show _ < ((p.w : Nat) : Int); omega
  uw i hi := by rw [lay_uF hi]; exact unit_lt p hi
  s1 i hi := by rw [lay_sF hi]; exact sz_sign (sgi_or _ _)
theorem tab0_wf : p.tab0.WF where
  lt i hi := unit_lt p hi
  unit i k hi hk := A_unit hi hk
  zero i hi := rfl
theorem tab0_feas : p.tab0.Feas := fun i _ => (A_rhs i).2
theorem tab0_rows : Tab.Rows p.tab0.A p.lp.m p.w p.tab0 := Tab.rows_self (fun _ _ => rfl) rfl rfl
end
end Go.Eng
/- What Minimize computes, in plain terms: the phases' invariants and the sizes of their numbers. -/
namespace Go.Eng
open Go.Proofs Num Lp
/-! ## sizes -/
theorem com_up {D X : Nat} {q : Rat} (D' : Nat) (h : Tab.Com D X q) : Tab.Com (D * D') (X * D') q := by
  obtain ⟨z, h1, h2⟩ := h
  refine ⟨z * D', ?_, ?_⟩
  · rw [Rat.natCast_mul, Rat.intCast_mul, ← h1]
    have : ((D' : Int) : Rat) = (D' : Rat) := rfl
    rw [this]; grind
  · rw [Int.natAbs_mul, Int.natAbs_natCast]; exact Nat.mul_le_mul_right _ h2
theorem com_mul {D D' X Y : Nat} {q r : Rat} (h : Tab.Com D X q) (k : Tab.Com D' Y r) : Tab.Com (D * D') (X * Y) (q * r) := by
  obtain ⟨z, h1, h2⟩ := h
  obtain ⟨y, k1, k2⟩ := k
  refine ⟨z * y, ?_, ?_⟩
  · rw [Rat.natCast_mul, Rat.intCast_mul, ← h1, ← k1]; grind
  · rw [Int.natAbs_mul]; exact Nat.mul_le_mul h2 k2
theorem prc_com {T : Tab} {f : Nat → Rat} {D D' X Y k j : Nat} (hB : ∀ i, i < T.m → T.B i < T.n) (hf : ∀ j, j < T.n → Tab.Com D X (f j)) (hA : ∀ i, i < T.m → Tab.Com D' Y (T.A i j)) (hk : k ≤ T.m) (hj : j ≤ T.n) :
    Tab.Com (D * D') (X * D' + k * (X * Y)) (prc T f k j) := by
  unfold prc
  refine Tab.Com.sub ?_ (Tab.com_sum k _ fun i hi => com_mul (hf _ (hB i (by omega))) (hA i (by omega)))
  split
  · exact Tab.com_zero _ _
  · exact com_up _ (hf j (by omega))
theorem pow_lt_B (e : Nat) : 2 ^ e < B ^ (e + 1) := by
  have h1 : 2 ^ (e + 1) ≤ B ^ (e + 1) := Nat.pow_le_pow_left (by decide) _
  have h2 : 2 ^ e < 2 ^ (e + 1) := Nat.pow_lt_pow_right (by decide) (by omega)
  omega
theorem com_szQ {D X e : Nat} {q : Rat} (hD : 0 < D) (h : Tab.Com D X q) (h1 : D ≤ 2 ^ e) (h2 : X ≤ 2 ^ e) : szQ q ≤ e + 1 := by
  have h3 := Tab.com_size hD h
  have h4 := pow_lt_B e
  unfold szQ
  rw [Nat.max_le, limbs_len_le, limbs_len_le]
  omega
theorem lst_le {D D0 n j e f : Nat} (hD : D ≤ 2 ^ e) (h0 : D0 ≤ 2 ^ f) : D * Tab.lst n j D0 1 ≤ 2 ^ (e + f) ∧ 2 ^ (e + Tab.lst n j f 0) ≤ 2 ^ (e + f) := by
  have h1 : (1 : Nat) ≤ 2 ^ f := Nat.one_le_two_pow
  unfold Tab.lst
  split
  · exact ⟨by rw [Nat.pow_add]; exact Nat.mul_le_mul hD h0, Nat.le_refl _⟩
  · exact ⟨by rw [Nat.pow_add]; exact Nat.mul_le_mul hD h1, Nat.pow_le_pow_right (by decide) (by omega)⟩
theorem lst_pos {D D0 n j : Nat} (hD : 0 < D) (h0 : 0 < D0) : 0 < D * Tab.lst n j D0 1 := Nat.mul_pos hD (by unfold Tab.lst; split <;> omega)
theorem bd_sz {D0 f e : Nat} {T : Tab} (h : Tab.Bd D0 f e T) (p0 : 0 < D0) (h0 : D0 ≤ 2 ^ f) : Sz (e + f + 1) T := by
  obtain ⟨D, h1, h2, h3, h4⟩ := h
  exact ⟨fun i hi j hj => com_szQ (lst_pos h1 p0) (h3 i hi j hj) (lst_le h2 h0).1 (lst_le (j := j) (n := T.n) h2 h0).2, fun j hj => com_szQ (lst_pos h1 p0) (h4 j hj) (lst_le h2 h0).1 (lst_le (j := j) (n := T.n) h2 h0).2⟩
/-- The coefficients of a program lie in a list. -/
def In (l : List Rat) (p : Prg) : Prop := ∀ i, i < p.lp.m → ∀ j, j < p.lp.n → p.lp.a i j ∈ l
/-- Its bounds have a common denominator. -/
structure BIn (D0 f : Nat) (p : Prg) : Prop where
  pos : 0 < D0
  le : D0 ≤ 2 ^ f
  b : ∀ i, i < p.lp.m → Tab.Com D0 (2 ^ f) (p.lp.b i)
theorem upd_all {P : Rat → Prop} {f : Nat → Rat} {k : Nat} {q : Rat} (hf : ∀ j, P (f j)) (hq : P q) : ∀ j, P (upd f k q j) := fun j => by
  unfold upd; split
  · exact hq
  · exact hf j
/-- A number over the list's common denominator. -/
abbrev CM (l : List Rat) (q : Rat) : Prop := Tab.Com (Tab.dens l) (2 ^ (2 * Tab.wts l)) q
section
variable {p : Prg} {l : List Rat}
theorem cm_sg {D X : Nat} {q : Rat} {s : Int} (h : Tab.Com D X q) (hs : s = 1 ∨ s = -1) : Tab.Com D X (q * (s : Rat)) := by
  rcases hs with e | e
  · rw [e, show q * ((1 : Int) : Rat) = q by grind]; exact h
  · rw [e, show q * ((-1 : Int) : Rat) = -q by grind]; exact h.neg
theorem cm_one : CM l 1 := Tab.com_int l 1 (by decide)
theorem cm_s {s : Int} (hs : s = 1 ∨ s = -1) : CM l (s : Rat) := Tab.com_int l s (by omega)
theorem rwk_cm {a : Nat → Rat} {s : Int} (hs : s = 1 ∨ s = -1) (k : Nat) (ha : ∀ j, j < k → CM l (a j)) (L : TL) : ∀ j, CM l (rwk L a (s : Rat) k j) := by
  induction k with
  | zero => exact fun j => Tab.com_zero _ _
  | succ k ih =>
    have ih' := ih (fun j hj => ha j (by omega))
    have h1 := cm_sg (ha k (by omega)) hs
    intro j
    rw [rwk_succ]
    split
    · exact upd_all (upd_all ih' h1) h1.neg j
    · exact upd_all ih' h1 j
theorem tab0_cm (h : In l p) {i : Nat} (hi : i < p.lp.m) {j : Nat} (hj : j ≠ p.w) : CM l (p.tab0.A i j) := by
  have hs := sgi_or (p.lp.b i) (p.lp.rel i)
  rw [tab0_A, upd_ne hj]
  refine upd_all (fun j => ?_) cm_one j
  have h1 := rwk_cm (l := l) (L := p.lay) hs p.lp.n (fun j hj => Tab.com_mem (h i hi j hj))
  unfold rwS
  split
  · exact upd_all h1 (cm_s hs) j
  · split
    · exact upd_all h1 (cm_s hs).neg j
    · exact h1 j
theorem tab0_cb {D0 f : Nat} (h : BIn D0 f p) {i : Nat} (hi : i < p.lp.m) : Tab.Com D0 (2 ^ f) (p.tab0.A i p.w) := by
  rw [tab0_A, upd_at]
  exact cm_sg (h.b i hi) (sgi_or (p.lp.b i) (p.lp.rel i))
/-! ## the invariant -/
/-- The tableau with the costs c0 priced out. -/
def priced (T : Tab) (c0 : Nat → Rat) : Tab := { T with c := prc T c0 T.m }
structure Inv (p : Prg) (c0 : Nat → Rat) (S : Tab) : Prop where
  wf : S.WF
  feas : S.Feas
  rows : Tab.Rows p.tab0.A p.lp.m p.w S
  off : Lay.Off p.tab0.A p.lp.m p.w c0 S.c
theorem prc_zero {T : Tab} {c0 : Nat → Rat} (hB : ∀ i, i < T.m → T.B i < T.n) (hu : ∀ i k, i < T.m → k < T.m → T.A k (T.B i) = if k = i then 1 else 0) {i : Nat} (hi : i < T.m) : prc T c0 T.m (T.B i) = 0 := by
  unfold prc
  have h1 := hB i hi
  rw [if_neg (by omega), sumN_single hi _ (fun k hk hne => by rw [hu i k hi hk, if_neg hne]; grind), hu i i hi hi, if_pos rfl]
  grind
theorem Inv.price {S : Tab} {c0 : Nat → Rat} (h0 : c0 p.w = 0) (hW : S.WF) (hF : S.Feas) (hR : Tab.Rows p.tab0.A p.lp.m p.w S) : Inv p c0 (priced S c0) := by
  have hR' : Tab.Rows p.tab0.A p.lp.m p.w (priced S c0) := ⟨hR.m, hR.n, hR.mul, hR.sol⟩
  refine ⟨⟨hW.lt, hW.unit, fun i hi => prc_zero hW.lt hW.unit hi⟩, hF, hR', hR.off c0 (fun i => c0 (S.B i)) fun j hj => ?_⟩
  show prc S c0 S.m j = _
  unfold prc
  rw [hR.m, hR.n]
  by_cases e : j = p.w
  · rw [if_pos e, e, h0]
  · rw [if_neg e]
theorem Inv.step {S : Tab} {c0 : Nat → Rat} (h : Inv p c0 S) {u r s : Nat} (hu : u ≤ S.n) (hb : S.Bland u r s) : Inv p c0 (S.pivot r s) := by
  have hp : S.A r s ≠ 0 := by have := hb.pos; grind
  have hs := hb.su
  have hr := hb.rm
  exact ⟨Tab.pivot_wf h.wf hr (by omega) hp, Tab.pivot_feas h.feas hb, h.rows.pivot (by rw [← h.rows.m]; exact hr) hp, h.rows.offp h.off (by rw [← h.rows.m]; exact hr)⟩
theorem Inv.same {S T : Tab} {c0 : Nat → Rat} (h : Inv p c0 S) (h' : Inv p c0 T) : Tab.Same S T :=
  ⟨by rw [h.rows.m, h'.rows.m], by rw [h.rows.n, h'.rows.n], fun x => by rw [h.rows.sol, h'.rows.sol], fun x hx => by
    rw [h.rows.cost h.off hx, h'.rows.cost h'.off ((h'.rows.sol x).2 ((h.rows.sol x).1 hx))]⟩
theorem two_pow_ge (m : Nat) : m + 1 ≤ 2 ^ m := by
  induction m with
  | zero => decide
  | succ m ih => rw [Nat.pow_succ]; omega
theorem base_bd {D0 f : Nat} (h : In l p) (hb : BIn D0 f p) {c0 : Nat → Rat} (hc : ∀ j, j < p.w → CM l (c0 j)) : Tab.Bd D0 f (4 * Tab.wts l + p.lp.m) (priced p.tab0 c0) := by
  have hD := Tab.dens_pos l
  have hD2 := Tab.dens_le l
  have hm := two_pow_ge p.lp.m
  generalize hX0 : 2 ^ (2 * Tab.wts l) = X at *
  have hX : 1 ≤ X := by rw [← hX0]; exact Nat.one_le_two_pow
  have hDX : Tab.dens l ≤ X := by rw [← hX0]; exact Nat.le_trans hD2 (Nat.pow_le_pow_right (by decide) (by omega))
  have p2 : 2 ^ (4 * Tab.wts l + p.lp.m) = X * X * 2 ^ p.lp.m := by rw [← hX0, ← Nat.pow_add, ← Nat.pow_add]; congr 1; omega
  have hDD : Tab.dens l * Tab.dens l ≤ X * X := Nat.mul_le_mul hDX hDX
  have hXD : X * Tab.dens l ≤ X * X := Nat.mul_le_mul_left _ hDX
  have hM : ∀ x, x ≤ X * X → x ≤ 2 ^ (4 * Tab.wts l + p.lp.m) := fun x hx => by
    rw [p2]; exact Nat.le_trans hx (Nat.le_mul_of_pos_right _ (by omega))
  have hcm : ∀ {q}, CM l q → Tab.Com (Tab.dens l) X q := fun {q} h => by rw [← hX0]; exact h
  have hnw : (priced p.tab0 c0).n = p.w := rfl
  refine ⟨Tab.dens l * Tab.dens l, Nat.mul_pos hD hD, hM _ hDD, fun i hi j hj => ?_, fun j hj => ?_⟩
  · by_cases e : j = p.w
    · subst e
      rw [← hnw, Tab.lst_n, Tab.lst_n, Nat.mul_comm, hnw]
      refine (com_up (Tab.dens l * Tab.dens l) (tab0_cb hb hi)).mono ?_
      rw [Nat.pow_add, Nat.mul_comm]
      exact Nat.mul_le_mul_right _ (hM _ hDD)
    · rw [Tab.lst_lt (by rw [hnw] at hj ⊢; omega), Tab.lst_lt (by rw [hnw] at hj ⊢; omega), Nat.mul_one]
      exact (com_up _ (hcm (tab0_cm h hi e))).mono (hM _ hXD)
  · by_cases e : j = p.w
    · subst e
      rw [← hnw, Tab.lst_n, Tab.lst_n, hnw]
      have h1 := com_up (Tab.dens l) (prc_com (T := p.tab0) (k := p.lp.m) (j := p.w) (fun i hi => unit_lt p hi) (fun j hj => hcm (hc j hj)) (fun i hi => tab0_cb hb hi) (Nat.le_refl _) hj)
      rw [show Tab.dens l * Tab.dens l * D0 = Tab.dens l * D0 * Tab.dens l by rw [Nat.mul_assoc, Nat.mul_assoc, Nat.mul_comm D0]]
      refine h1.mono ?_
      have h2 : X * D0 ≤ X * 2 ^ f := Nat.mul_le_mul_left _ hb.le
      have h3 : X * D0 + p.lp.m * (X * 2 ^ f) ≤ (p.lp.m + 1) * (X * 2 ^ f) := by rw [Nat.succ_mul p.lp.m]; omega
      refine Nat.le_trans (Nat.mul_le_mul h3 hDX) ?_
      rw [Nat.pow_add, p2]
      have e4 : (p.lp.m + 1) * (X * 2 ^ f) * X = X * X * (p.lp.m + 1) * 2 ^ f := by
        rw [Nat.mul_comm _ X, Nat.mul_left_comm (p.lp.m + 1) X, ← Nat.mul_assoc, Nat.mul_assoc (X * X)]
      rw [e4]
      exact Nat.mul_le_mul_right _ (Nat.mul_le_mul_left _ hm)
    · rw [Tab.lst_lt (by rw [hnw] at hj ⊢; omega), Tab.lst_lt (by rw [hnw] at hj ⊢; omega), Nat.mul_one]
      refine (prc_com (T := p.tab0) (k := p.lp.m) (fun i hi => unit_lt p hi) (fun j hj => hcm (hc j hj)) (fun i hi => hcm (tab0_cm h hi e)) (Nat.le_refl _) hj).mono ?_
      rw [Nat.add_zero, p2]
      refine Nat.le_trans (m := (p.lp.m + 1) * (X * X)) ?_ (by rw [Nat.mul_comm]; exact Nat.mul_le_mul_left _ hm)
      rw [Nat.succ_mul p.lp.m]; omega
/-- The bits that the numbers of a run need: k columns at most come into the basis; the bounds have f bits. -/
def bitE (l : List Rat) (k m : Nat) : Nat := 2 ^ k * (4 * Tab.wts l + m + 1)
def bits (l : List Rat) (k m f : Nat) : Nat := bitE l k m + f
theorem Inv.base {c0 : Nat → Rat} (h0 : c0 p.w = 0) : Inv p c0 (priced p.tab0 c0) := Inv.price h0 tab0_wf tab0_feas tab0_rows
/-- At most k columns come into the basis. -/
def Cin (p : Prg) (k : Nat) : Prop := p.lp.m ≤ k ∨ p.w ≤ p.lp.m + k
theorem Inv.bd {D0 f k : Nat} {S : Tab} {c0 : Nat → Rat} (h : Inv p c0 S) (hl : In l p) (hb : BIn D0 f p) (hk : Cin p k) (h0 : c0 p.w = 0) (hc : ∀ j, j < p.w → CM l (c0 j)) : Tab.Bd D0 f (bitE l k p.lp.m - 1) S := by
  refine Tab.bd_all (Inv.base h0).wf h.wf ((Inv.base h0).same h) (base_bd hl hb hc) ?_
  rcases hk with hk | hk
  · exact Nat.le_trans (Tab.cnt_le _ _) (by rw [h.rows.m]; exact hk)
  · have h1 := Tab.cnt_le2 (Inv.base h0).wf h.wf ((Inv.base h0).same h)
    have h2 : (priced p.tab0 c0).n = p.w := rfl
    have h3 : (priced p.tab0 c0).m = p.lp.m := rfl
    omega
theorem bitE_pos (l : List Rat) (k m : Nat) : 2 * Tab.wts l + m + 1 ≤ bitE l k m := by
  unfold bitE
  have h1 : 1 ≤ 2 ^ k := Nat.one_le_two_pow
  have h2 : 1 * (4 * Tab.wts l + m + 1) ≤ 2 ^ k * (4 * Tab.wts l + m + 1) := Nat.mul_le_mul_right _ h1
  omega
theorem Inv.sz {D0 f k : Nat} {S : Tab} {c0 : Nat → Rat} (h : Inv p c0 S) (hl : In l p) (hb : BIn D0 f p) (hk : Cin p k) (h0 : c0 p.w = 0) (hc : ∀ j, j < p.w → CM l (c0 j)) : Sz (bits l k p.lp.m f) S := by
  have h1 := bd_sz (h.bd hl hb hk h0 hc) hb.pos hb.le
  have h2 := bitE_pos l k p.lp.m
  rwa [show bitE l k p.lp.m - 1 + f + 1 = bits l k p.lp.m f by unfold bits; omega] at h1
theorem cm_sz {q : Rat} (h : CM l q) (k m f : Nat) : szQ q ≤ bits l k m f := by
  have h2 := bitE_pos l k m
  refine Nat.le_trans (com_szQ (e := 2 * Tab.wts l) (Tab.dens_pos l) h ?_ (Nat.le_refl _)) (by unfold bits; omega)
  exact Nat.le_trans (Tab.dens_le l) (Nat.pow_le_pow_right (by decide) (by omega))
/-- The numbers that arise while costs are priced out. -/
theorem price_sz {D0 f k : Nat} {S : Tab} {c1 : Nat → Rat} (hB : ∀ i, i < S.m → S.B i < S.n) (hm : S.m = p.lp.m) (hn : S.n = p.w) (hb : Tab.Bd D0 f (bitE l k p.lp.m - 1) S) (p0 : 0 < D0) (h0 : D0 ≤ 2 ^ f) (hc : ∀ j, j < p.w → CM l (c1 j)) : ∀ k', k' ≤ S.m → ∀ j, j ≤ S.n → szQ (prc S c1 k' j) ≤ 2 * bits l k p.lp.m f := by
  intro k' hk j hj
  obtain ⟨D, h1, h2, h3, _⟩ := hb
  have hbp := bitE_pos l k p.lp.m
  have hD := Tab.dens_pos l
  have hD2 := Tab.dens_le l
  obtain ⟨q1, q2⟩ := lst_le (j := j) (n := S.n) h2 h0
  have key := prc_com hB (fun j hj => hc j (by omega)) (fun i hi => h3 i hi j hj) hk hj
  refine Nat.le_trans (com_szQ (e := 2 * Tab.wts l + (bitE l k p.lp.m - 1 + f) + p.lp.m) (Nat.mul_pos hD (lst_pos h1 p0)) key ?_ ?_) (by unfold bits; omega)
  · refine Nat.le_trans (Nat.mul_le_mul hD2 q1) ?_
    rw [← Nat.pow_add]
    exact Nat.pow_le_pow_right (by decide) (by omega)
  · rw [Nat.pow_add _ _ p.lp.m, Nat.pow_add 2 (2 * Tab.wts l) (bitE l k p.lp.m - 1 + f)]
    generalize 2 ^ (bitE l k p.lp.m - 1 + f) = Z at *
    have g1 : 2 ^ (2 * Tab.wts l) * (D * Tab.lst S.n j D0 1) ≤ 2 ^ (2 * Tab.wts l) * Z := Nat.mul_le_mul_left _ q1
    have g3 : k' * (2 ^ (2 * Tab.wts l) * 2 ^ (bitE l k p.lp.m - 1 + Tab.lst S.n j f 0)) ≤ k' * (2 ^ (2 * Tab.wts l) * Z) := Nat.mul_le_mul_left _ (Nat.mul_le_mul_left _ q2)
    have g2 := two_pow_ge p.lp.m
    refine Nat.le_trans (m := (k' + 1) * (2 ^ (2 * Tab.wts l) * Z)) (by rw [Nat.succ_mul k', Nat.add_comm]; exact Nat.add_le_add g3 g1) ?_
    rw [Nat.mul_comm]; exact Nat.mul_le_mul_left _ (by omega)
end
end Go.Eng
/- What Minimize answers, in plain terms. -/
namespace Go.Eng
open Go.Proofs Num Lp
/-! ## what a function is beyond its range does not matter -/
section
variable {p : LP}
theorem dot_fn {n : Nat} {a x x' : Nat → Rat} (h : ∀ j, j < n → x j = x' j) : dotN n a x = dotN n a x' := dotN_congr (fun _ _ => rfl) h
theorem Meets.congr {t : Rat} {x x' : Nat → Rat} (h : ∀ j, j < p.n → x j = x' j) (hm : p.Meets t x) : p.Meets t x' :=
  ⟨fun j hj hf => by rw [← h j hj]; exact hm.1 j hj hf, fun i hi => by rw [← dot_fn h]; exact hm.2 i hi⟩
theorem Signed.congr {y y' : Nat → Rat} (h : ∀ i, i < p.m → y i = y' i) (hm : p.Signed y) : p.Signed y' := fun i hi => by rw [← h i hi]; exact hm i hi
theorem colsum_congr {y y' : Nat → Rat} (h : ∀ i, i < p.m → y i = y' i) (j : Nat) : p.colsum y j = p.colsum y' j := sumN_congr fun i hi => by rw [h i hi]
theorem bndsum_congr {y y' : Nat → Rat} (h : ∀ i, i < p.m → y i = y' i) : p.bndsum y = p.bndsum y' := sumN_congr fun i hi => by rw [h i hi]
theorem CertOpt.congr {c x x' y y' : Nat → Rat} (hx : ∀ j, j < p.n → x j = x' j) (hy : ∀ i, i < p.m → y i = y' i) (h : p.CertOpt c x y) : p.CertOpt c x' y' :=
  ⟨Meets.congr hx h.feas, Signed.congr hy h.signed, fun j hj => by rw [← colsum_congr hy]; exact h.cols j hj, by rw [← bndsum_congr hy, ← dot_fn hx]; exact h.eq⟩
theorem CertInf.congr {y y' : Nat → Rat} (hy : ∀ i, i < p.m → y i = y' i) (h : p.CertInf y) : p.CertInf y' :=
  ⟨Signed.congr hy h.signed, fun j hj => by rw [← colsum_congr hy]; exact h.cols j hj, by rw [← bndsum_congr hy]; exact h.pos⟩
theorem CertUnb.congr {c x x' r r' : Nat → Rat} (hx : ∀ j, j < p.n → x j = x' j) (hr : ∀ j, j < p.n → r j = r' j) (h : p.CertUnb c x r) : p.CertUnb c x' r' :=
  ⟨Meets.congr hx h.feas, Meets.congr hr h.ray, by rw [← dot_fn hr]; exact h.neg⟩
end
section
variable {p : Prg} {l c : List Rat} {T : Tab}
abbrev pn (p : Prg) : Nat → Rat := Tab.pen p.u p.w
/-- The costs of an objective over the columns. -/
abbrev cst (p : Prg) (c : List Rat) : Nat → Rat := rwk p.lay (fn c) 1 p.lp.n
theorem pn_last : pn p p.w = 0 := Tab.pen_last _ _
theorem pn_cm (j : Nat) : CM l (pn p j) := by
  show CM l (Tab.pen _ _ _)
  unfold Tab.pen; split
  · exact cm_one
  · exact Tab.com_zero _ _
theorem cst_ok : Tab.Costs p.lp p.w p.lay.pF p.lay.mF p.slk (fn c) (cst p c) where
  pl j hj := by rw [lay_pF p hj]; show rwk p.lay (fn c) 1 p.lp.n _ = _; rw [(rwk_plus (Nat.le_refl _) hj).1]; grind
  mi j hj k hk := by
    rw [lay_mF hj] at hk
    by_cases hf : p.lp.free j = true
    · rw [if_pos hf] at hk; cases hk
      show rwk p.lay (fn c) 1 p.lp.n _ = _
      rw [(rwk_plus (Nat.le_refl _) hj).2 hf]; grind
    · rw [if_neg hf] at hk; cases hk
  sl i hi k hk := by
    unfold Prg.slk at hk
    split at hk
    · cases hk
    · cases hk
      exact rwk_out (Nat.le_refl _) (slc_le _ _ _).2
  last := rwk_out (Nat.le_refl _) (Nat.le_trans (c1_u p) (u_w p))
theorem cst_last : cst p c p.w = 0 := (cst_ok (p := p) (c := c)).last
theorem cst_cm (hc : ∀ j, j < p.lp.n → fn c j ∈ l) (j : Nat) : CM l (cst p c j) := by
  have := rwk_cm (l := l) (a := fn c) (s := 1) (.inl rfl) p.lp.n (fun j hj => Tab.com_mem (hc j hj)) p.lay j
  exact this
/-- No vector meets the rows. -/
theorem mz_inf (hok : p.Ok) (h : Inv p (pn p) T) (hn : ∀ j, j < p.u → 0 ≤ T.c j) (hneg : T.c p.w < 0) : ChkInf p (vals (fun i => p.lay.sF i * (pn p (p.lay.uF i) - T.c (p.lay.uF i))) p.lp.m) :=
  ⟨hok, vals_len _ _, CertInf.congr (fun i hi => (fn_vals hi).symm) (Lay.cert_inf (lay_ok hok) h.off (fun j hj => Tab.pen_low hj) pn_last hn hneg)⟩
/-- Behind the first phase. -/
theorem mz_clean (h : Inv p (pn p) T) (hv : ¬ T.c p.w < 0) : Tab.Clean p.u 0 T :=
  Tab.Clean.start (Tab.phase1_zero h.wf h.feas h.rows h.off (by grind)).2
theorem mz_noray (h : Inv p (pn p) T) {s : Nat} (hs : s < p.u) (hneg : T.c s < 0) (hA : ∀ i, i < T.m → T.A i s ≤ 0) : False :=
  Tab.phase1_ray h.wf h.rows h.off (Nat.lt_of_lt_of_le hs (u_w p)) hneg hA
/-- What holds while artificial columns leave. -/
def Jx (p : Prg) (k : Nat) (S : Tab) : Prop := Inv p (pn p) S ∧ Tab.Clean p.u k S
theorem Jx.skip {k : Nat} (h : Jx p k T) (hk : T.B k < p.u ∨ ∀ j, j < p.u → T.A k j = 0) : Jx p (k + 1) T := ⟨h.1, h.2.skip hk⟩
theorem Jx.pivot {k s : Nat} (h : Jx p k T) (hk : k < T.m) (hu : p.u ≤ T.B k) (hs : s < p.u) (hp : T.A k s ≠ 0) : Jx p (k + 1) (T.pivot k s) := by
  have huw := u_w p
  have hm : k < p.lp.m := by rw [← h.1.rows.m]; exact hk
  exact ⟨⟨Tab.pivot_wf h.1.wf hk (by rw [h.1.rows.n]; omega) hp, h.2.feas h.1.feas hk hu s, h.1.rows.pivot hm hp, h.1.rows.offp h.1.off hm⟩, h.2.expel hk hu hs⟩
/-- What holds in the second phase. -/
def I2 (p : Prg) (c : List Rat) (S : Tab) : Prop := Inv p (cst p c) S ∧ Tab.Clean p.u S.m S
theorem I2.start (h : Jx p p.lp.m T) : I2 p c (priced T (cst p c)) := by
  have hc := h.2
  rw [← h.1.rows.m] at hc
  exact ⟨Inv.price cst_last h.1.wf h.1.feas h.1.rows, ⟨hc.zero, hc.row⟩⟩
theorem I2.step {r s : Nat} (h : I2 p c T) (hb : T.Bland p.u r s) : I2 p c (T.pivot r s) :=
  ⟨h.1.step (by rw [h.1.rows.n]; exact u_w p) hb, h.2.bland hb⟩
theorem mz_opt (hok : p.Ok) (hcl : c.length = p.free.length) (h : I2 p c T) (hn : ∀ j, j < p.u → 0 ≤ T.c j) :
    ChkOpt p c (vals (Lay.vec p.lay.pF p.lay.mF T.pt) p.lp.n) (vals (fun i => p.lay.sF i * (cst p c (p.lay.uF i) - T.c (p.lay.uF i))) p.lp.m) ∧ -(T.c p.w) = dotN p.free.length (fn c) (fn (vals (Lay.vec p.lay.pF p.lay.mF T.pt) p.lp.n)) := by
  have h1 := Tab.fin_opt (lay_ok hok) h.1.wf h.1.feas h.1.rows h.2 cst_ok h.1.off hn
  have h2 := CertOpt.congr (x' := fn (vals (Lay.vec p.lay.pF p.lay.mF T.pt) p.lp.n)) (y' := fn (vals (fun i => p.lay.sF i * (cst p c (p.lay.uF i) - T.c (p.lay.uF i))) p.lp.m)) (fun j hj => (fn_vals hj).symm) (fun i hi => (fn_vals hi).symm) h1
  refine ⟨⟨⟨hok, vals_len _ _, h2.feas⟩, hcl, vals_len _ _, h2⟩, ?_⟩
  rw [← Tab.fin_value (lay_ok hok) h.1.wf h.1.rows h.2 cst_ok h.1.off]
  exact dot_fn (n := p.lp.n) fun j hj => (fn_vals hj).symm
theorem mz_unb (hok : p.Ok) (hcl : c.length = p.free.length) (h : I2 p c T) {s : Nat} (hs : s < p.u) (hneg : T.c s < 0) (hA : ∀ i, i < T.m → T.A i s ≤ 0) :
    ChkUnb p c (vals (Lay.vec p.lay.pF p.lay.mF T.pt) p.lp.n) (vals (Lay.vec p.lay.pF p.lay.mF (T.dir s)) p.lp.n) := by
  have h1 := Tab.fin_unb (lay_ok hok) h.1.wf h.1.feas h.1.rows h.2 cst_ok h.1.off hs hneg hA
  have h2 := CertUnb.congr (x' := fn (vals (Lay.vec p.lay.pF p.lay.mF T.pt) p.lp.n)) (r' := fn (vals (Lay.vec p.lay.pF p.lay.mF (T.dir s)) p.lp.n)) (fun j hj => (fn_vals hj).symm) (fun j hj => (fn_vals hj).symm) h1
  exact ⟨⟨hok, vals_len _ _, h2.feas⟩, hcl, vals_len _ _, h2⟩
/-! ## sizes of points and rays -/
theorem pt_sz {N : Nat} (hW : T.WF) (hz : Sz N T) (h0 : 1 ≤ N) {j : Nat} (hj : j < T.n) : szQ (T.pt j) ≤ N := by
  by_cases h : ∃ i, i < T.m ∧ T.B i = j
  · obtain ⟨i, hi, rfl⟩ := h
    rw [Tab.pt_basis hW hi]; exact hz.A i hi _ (Nat.le_refl _)
  · rw [Tab.pt_zero hj (fun i hi e => absurd ⟨i, hi, e⟩ h)]
    exact Nat.le_trans (by decide) h0
theorem dir_sz {N : Nat} (hW : T.WF) (hz : Sz N T) (h0 : 1 ≤ N) {s j : Nat} (hs : s ≤ T.n) (hns : ∀ i, i < T.m → T.B i ≠ s) : szQ (T.dir s j) ≤ N := by
  unfold Tab.dir
  by_cases e : j = s
  · subst e
    rw [if_pos rfl, sumN_eq0 (fun i hi => by rw [if_neg (hns i hi)]), show (1 : Rat) - 0 = 1 by grind]
    exact Nat.le_trans (by decide) h0
  · rw [if_neg e]
    by_cases h : ∃ i, i < T.m ∧ T.B i = j
    · obtain ⟨i, hi, rfl⟩ := h
      rw [sumN_single hi _ (fun k hk hne => by rw [if_neg (fun e' => hne (hW.inj hk hi e'))]), if_pos rfl, show (0 : Rat) - T.A i s = -(T.A i s) by grind, szQ_neg]
      exact hz.A i hi s hs
    · rw [sumN_eq0 (fun i hi => by rw [if_neg (fun e' => h ⟨i, hi, e'⟩)]), show (0 : Rat) - 0 = 0 by grind]
      exact Nat.le_trans (by decide) h0
/-- A column that may enter is not in the basis. -/
theorem ray_out (hW : T.WF) {s : Nat} (hneg : T.c s < 0) : ∀ i, i < T.m → T.B i ≠ s := fun i hi e => by
  have := hW.zero i hi
  rw [e] at this; grind
end
/-! ## sizes of a whole run -/
/-- All numbers of a run have at most M limbs. -/
structure Fits (p : Prg) (c : List Rat) (M : Nat) : Prop where
  one : 1 ≤ M
  pn : ∀ j, szQ (pn p j) ≤ M
  cst : ∀ j, szQ (cst p c j) ≤ M
  tab : ∀ i, i < p.lp.m → ∀ j, szQ (p.tab0.A i j) ≤ M
  sz1 : ∀ S, Inv p (Eng.pn p) S → Sz M S
  sz2 : ∀ S, Inv p (Eng.cst p c) S → Sz M S
  pr1 : ∀ k, k ≤ p.lp.m → ∀ j, j ≤ p.w → szQ (prc (priced p.tab0 (Eng.pn p)) (Eng.pn p) k j) ≤ 2 * M
  pr2 : ∀ S, Inv p (Eng.pn p) S → ∀ k, k ≤ S.m → ∀ j, j ≤ S.n → szQ (prc S (Eng.cst p c) k j) ≤ 2 * M
section
variable {p : Prg} {l c : List Rat} {D0 f k : Nat}
theorem fit_of (hl : In l p) (hlc : ∀ j, j < p.lp.n → fn c j ∈ l) (hb : BIn D0 f p) (hk : Cin p k) : Fits p c (bits l k p.lp.m f) where
  one := by have := bitE_pos l k p.lp.m; unfold bits; omega
  pn j := cm_sz (pn_cm j) _ _ _
  cst j := cm_sz (cst_cm hlc j) _ _ _
  tab i hi j := by
    by_cases e : j = p.w
    · subst e
      refine Nat.le_trans (com_szQ (e := f) hb.pos (tab0_cb hb hi) hb.le (Nat.le_refl _)) ?_
      have := bitE_pos l k p.lp.m; unfold bits; omega
    · exact cm_sz (tab0_cm hl hi e) _ _ _
  sz1 S h := h.sz hl hb hk pn_last fun j _ => pn_cm j
  sz2 S h := h.sz hl hb hk cst_last fun j _ => cst_cm hlc j
  pr1 := price_sz (fun i hi => unit_lt p hi) rfl rfl ((Inv.base pn_last).bd hl hb hk pn_last fun j _ => pn_cm j) hb.pos hb.le fun j _ => pn_cm j
  pr2 S h := price_sz h.wf.lt h.rows.m h.rows.n (h.bd hl hb hk pn_last fun j _ => pn_cm j) hb.pos hb.le fun j _ => cst_cm hlc j
/-- The value and the vector of a last tableau. -/
theorem val_com {T : Tab} (hl : In l p) (hlc : ∀ j, j < p.lp.n → fn c j ∈ l) (hb : BIn D0 f p) (hk : Cin p k) (h : I2 p c T) :
    ∃ D, 0 < D ∧ D ≤ 2 ^ bitE l k p.lp.m ∧ Tab.Com (D * D0) (2 ^ (bitE l k p.lp.m + f)) (-(T.c p.w)) ∧ ∀ q, q ∈ vals (Lay.vec p.lay.pF p.lay.mF T.pt) p.lp.n → Tab.Com (D * D0) (2 ^ (bitE l k p.lp.m + f)) q := by
  obtain ⟨D, h1, h2, h3, h4⟩ := h.1.bd hl hb hk cst_last fun j _ => cst_cm hlc j
  have hp := bitE_pos l k p.lp.m
  have hn := h.1.rows.n
  have up : ∀ z, 2 ^ (bitE l k p.lp.m - 1 + z) ≤ 2 ^ (bitE l k p.lp.m + z) := fun z => Nat.pow_le_pow_right (by decide) (by omega)
  refine ⟨D, h1, Nat.le_trans h2 (up 0), ?_, fun q hq => ?_⟩
  · have h5 := h4 p.w (by omega)
    rw [← hn, Tab.lst_n, Tab.lst_n] at h5
    rw [← hn]
    exact (h5.mono (up f)).neg
  · have hpt : ∀ j, j < p.w → Tab.Com (D * D0) (2 ^ (bitE l k p.lp.m - 1 + f)) (T.pt j) := fun j hj => by
      by_cases hb : ∃ i, i < T.m ∧ T.B i = j
      · obtain ⟨i, hi, rfl⟩ := hb
        have h5 := h3 i hi p.w (by omega)
        rw [← hn, Tab.lst_n, Tab.lst_n] at h5
        rw [Tab.pt_basis h.1.wf hi]; exact h5
      · rw [Tab.pt_zero (by omega) (fun i hi e => absurd ⟨i, hi, e⟩ hb)]
        exact Tab.com_zero _ _
    unfold vals at hq
    obtain ⟨j, hj, rfl⟩ := List.mem_map.1 hq
    have hj := List.mem_range.1 hj
    have hm : Tab.Com (D * D0) (2 ^ (bitE l k p.lp.m - 1 + f)) (optv T.pt (p.lay.mF j)) := by
      rw [lay_mF hj]
      by_cases hf : p.lp.free j = true
      · rw [if_pos hf]
        have := mnz_lt p hj
        unfold mnz at this
        rw [if_pos hf] at this
        have := c1_u p
        have := u_w p
        exact hpt _ (by omega)
      · rw [if_neg hf]; exact Tab.com_zero _ _
    have h6 := (hpt _ (lay_tl.pw j hj)).sub hm
    refine h6.mono ?_
    rw [show bitE l k p.lp.m + f = (bitE l k p.lp.m - 1 + f) + 1 by omega, Nat.pow_succ]; omega
end
end Go.Eng
