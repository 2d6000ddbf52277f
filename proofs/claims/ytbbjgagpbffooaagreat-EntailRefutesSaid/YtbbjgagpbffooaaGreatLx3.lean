/- Walks over package lexico, part 3: feasible, Minimize. -/
import Derived.Test.YtbbjgagpbffooaaGreatA10
import Derived.Test.YtbbjgagpbffooaaGreatLx2
import Derived.Test.YtbbjgagpbffooaaGreatLxz
set_option linter.unusedVariables false
namespace Go.Eng
open Go.Proofs Num Lp
abbrev KX : Nat := 200000000
/-- A result of simplex, its cells written out. -/
def SolK (K : Nat) (H : Heap) (s : Value) (S : Soln) : Prop := ∃ f A1 m1 c1 A2 m2 c2 Ax cx Ad cd Ar cr, s = .agg #[.int .i64 S.status, .bool f, .slice A1 m1 c1, .slice A2 m2 c2, .slice Ax S.x.length cx, .slice Ad S.dual.length cd, .slice Ar S.ray.length cr] ∧ RawV H (.agg #[.bool f, .slice A1 m1 c1, .slice A2 m2 c2]) S.value K ∧ SlV (RatP K) 3 H (.slice Ax S.x.length cx) S.x ∧ SlV (RatP K) 3 H (.slice Ad S.dual.length cd) S.dual ∧ SlV (RatP K) 3 H (.slice Ar S.ray.length cr) S.ray
theorem SolV.k {K : Nat} {H : Heap} {s : Value} {S : Soln} (h : SolV H s S) (hz : SolZ K S) : SolK K H s S := by
  obtain ⟨f, u, w, xv, dv, rv, rfl, h4, h5, h6, h7⟩ := h
  obtain ⟨Ax, cx, _, rfl, _⟩ := id h5
  obtain ⟨Ad, cd, _, rfl, _⟩ := id h6
  obtain ⟨Ar, cr, _, rfl, _⟩ := id h7
  have hx := h5.can_rat fun q hq => hz q (.inl hq)
  have hd := h6.can_rat fun q hq => hz q (.inr (.inl hq))
  have hr := h7.can_rat fun q hq => hz q (.inr (.inr (.inl hq)))
  rcases h4 with h4 | ⟨h4, rfl, rfl, rfl⟩
  · obtain ⟨u', w', e, hu, hw⟩ := id h4
    have e' := arr3 (vs := [.bool f, u, w]) e
    simp only [List.cons.injEq, and_true] at e'
    obtain ⟨_, rfl, rfl⟩ := e'
    obtain ⟨A1, c1, rfl, _⟩ := id hu
    obtain ⟨A2, c2, rfl, _⟩ := id hw
    exact ⟨_, _, _, _, _, _, _, _, _, _, _, _, _, rfl, (CanV.raw h4).mono (hz _ (.inr (.inr (.inr rfl)))), hx, hd, hr⟩
  · exact ⟨_, _, _, _, _, _, _, _, _, _, _, _, _, rfl, by rw [h4]; exact rawV_zero, hx, hd, hr⟩
/-- What Minimize of simplex gives for a valid program. -/
def MinK (p : Prg) (c : List Rat) (H : Heap) (v : Value) (H' : Heap) : Prop := Heap.le H H' ∧ ∃ S f A1 m1 c1 A2 m2 c2 Ax cx Ad cd Ar cr, v = .tuple #[.agg #[.int .i64 S.status, .bool f, .slice A1 m1 c1, .slice A2 m2 c2, .slice Ax S.x.length cx, .slice Ad S.dual.length cd, .slice Ar S.ray.length cr], .int .i64 0] ∧ Chk p c S ∧ Last p c S ∧ RawV H' (.agg #[.bool f, .slice A1 m1 c1, .slice A2 m2 c2]) S.value KX ∧ SlV (RatP KX) 3 H' (.slice Ax S.x.length cx) S.x ∧ SlV (RatP KX) 3 H' (.slice Ad S.dual.length cd) S.dual ∧ SlV (RatP KX) 3 H' (.slice Ar S.ray.length cr) S.ray
theorem minK_ok {N M : Nat} {H : Heap} {v cv : Value} {p : Prg} {c : List Rat} (hp : ProgV N H v p) (hc : SlV (RatP N) 3 H cv c) (hN : N ≤ 400000000) (hok : p.Ok) (hlen : c.length = p.free.length) (hf : Fits p c M) (hM : M ≤ 99999998) : Fn Tryz.prog 87 #[v, cv] H (MinK p c H) := by
  have hn := hok.cols
  refine (Minimize_ok hp hc hf (by omega) (by omega) (by omega)).mono ?_
  rintro v' H' ⟨hl, s, e, rfl, h3⟩
  rcases h3 with h3 | h3 | ⟨_, _, rfl, S, k4, k5, k6, k7⟩
  · exact absurd hok h3.1
  · exact absurd hlen h3.2.1
  · obtain ⟨f, A1, m1, c1, A2, m2, c2, Ax, cx, Ad, cd, Ar, cr, rfl, g1, g2, g3, g4⟩ := k4.k (K := KX) (fun q hq => Nat.le_trans (k6 q hq) (by show _ ≤ 200000000; omega))
    exact ⟨hl, S, f, A1, m1, c1, A2, m2, c2, Ax, cx, Ad, cd, Ar, cr, rfl, k5, k7, g1, g2, g3, g4⟩
theorem MinK.le {p : Prg} {c : List Rat} {H : Heap} {v : Value} {H' : Heap} (h : MinK p c H v H') : Heap.le H H' := h.1
theorem made_zero {N : Nat} {H : Heap} {g k : Nat} : SlV (RatP N) 3 (ins H g ⟨madeL [.bool false, .slice none 0 0, .slice none 0 0] ((k : Int).toNat * 3), (k : Int).toNat * 3, 36, true⟩) (.slice (some ⟨g, 0, none⟩) (k : Int).toNat (k : Int).toNat) (List.replicate k 0) := by
  rw [Int.toNat_natCast]
  exact ⟨_, k, _, by rw [List.length_replicate], by rw [List.length_replicate]; exact Nat.le_refl _, rd_ins _ _ _ _ _ _, els_made (P := RatP N _) rfl rawV_zero k⟩
theorem fn_rep (k j : Nat) : fn (List.replicate k 0) j = 0 := by
  unfold fn
  rw [List.getD, List.getElem?_replicate]
  split <;> rfl
end Go.Eng
