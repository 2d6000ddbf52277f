/- The dual program: weak and strong duality. -/
import Derived.Test.YtfkeccepnppjnaaGreatA11
import Derived.Test.YtfkeccepnppjnaaGreatDual
set_option linter.unusedVariables false
namespace Go.Eng
open Go.Proofs Num Lp
section
variable (p : Prg) (c : List Rat)
/-- The sign of a row's multiplier. -/
def sgL (i : Nat) : Rat := if p.lp.rel i = 1 then -1 else 1
theorem sgL_sq (i : Nat) : sgL p i * sgL p i = 1 := by unfold sgL; split <;> grind
theorem sgR_eq {i : Nat} (hi : i < p.rows.length) (q : Rat) : sgR (p.row i) q = sgL p i * q := by
  unfold sgR sgL
  show (if (p.row i).2.1 = 1 then -q else q) = (if (p.row i).2.1 = 1 then -1 else 1) * q
  split <;> grind
theorem fn_rows {f : List Rat × Int × Rat → Rat} {i : Nat} (hi : i < p.rows.length) : fn (p.rows.map f) i = f (p.row i) := by
  rw [Prg.row_get (List.getElem?_eq_getElem hi)]
  exact fn_get (by simp [hi])
theorem du_n : (duP p c).lp.n = p.lp.m := by show (duF p).length = p.rows.length; simp [duF]
theorem du_m : (duP p c).lp.m = p.lp.n := by show ((List.range p.free.length).map (duR p c)).length = p.free.length; simp
theorem du_row {j : Nat} (hj : j < p.lp.n) : (duP p c).row j = duR p c j := Prg.row_get (by show ((List.range p.free.length).map (duR p c))[j]? = _; simp [show j < p.free.length from hj])
theorem du_free {i : Nat} (hi : i < p.lp.m) : (duP p c).lp.free i = (p.lp.rel i == 2) := by
  have hi' : i < p.rows.length := hi
  refine Prg.free_get ?_
  show (p.rows.map fun r => r.2.1 == 2)[i]? = _
  show _ = some ((p.row i).2.1 == 2)
  rw [Prg.row_get (List.getElem?_eq_getElem hi')]
  simp [hi']
theorem du_a {i j : Nat} (hi : i < p.lp.m) (hj : j < p.lp.n) : (duP p c).lp.a j i = sgL p i * p.lp.a i j := by
  show fn ((duP p c).row j).1 i = _
  rw [du_row p c hj]
  show fn (p.rows.map fun r => sgR r (fn r.1 j)) i = _
  rw [fn_rows p hi, sgR_eq p hi]; rfl
theorem du_rel {j : Nat} (hj : j < p.lp.n) : (duP p c).lp.rel j = if p.lp.free j then 2 else 1 := by
  show ((duP p c).row j).2.1 = _
  rw [du_row p c hj]; rfl
theorem du_b {j : Nat} (hj : j < p.lp.n) : (duP p c).lp.b j = fn c j := by
  show ((duP p c).row j).2.2 = _
  rw [du_row p c hj]; rfl
theorem du_o {i : Nat} (hi : i < p.lp.m) : fn (duO p) i = -(sgL p i * p.lp.b i) := by
  show fn (p.rows.map fun r => -sgR r r.2.2) i = _
  rw [fn_rows p hi, sgR_eq p hi]; rfl
/-- What a feasible vector of the dual program is, as multipliers. -/
structure DF (y : Nat → Rat) : Prop where
  signed : p.lp.Signed y
  cols : ∀ j, j < p.lp.n → p.lp.colsum y j ≤ fn c j ∧ (p.lp.free j = true → p.lp.colsum y j = fn c j)
end
section
variable {p : Prg} {c : List Rat}
theorem du_dot {j : Nat} (hj : j < p.lp.n) (z : Nat → Rat) : dotN (duP p c).lp.n ((duP p c).lp.a j) z = p.lp.colsum (fun i => sgL p i * z i) j := by
  rw [du_n]
  unfold dotN LP.colsum
  exact sumN_congr fun i hi => by rw [du_a p c hi hj]; grind
theorem du_obj (z : Nat → Rat) : dotN (duP p c).lp.n (fn (duO p)) z = -p.lp.bndsum (fun i => sgL p i * z i) := by
  rw [du_n]
  unfold dotN LP.bndsum
  have h1 : sumN p.lp.m (fun j => fn (duO p) j * z j) = sumN p.lp.m (fun j => -1 * (sgL p j * z j * p.lp.b j)) := sumN_congr fun i hi => by rw [du_o p hi]; grind
  rw [h1, sumN_mul]; grind
theorem du_df (hok : p.Ok) {z : Nat → Rat} (h : (duP p c).lp.Meets 1 z) : DF p c (fun i => sgL p i * z i) := by
  refine ⟨fun i hi => ?_, fun j hj => ?_⟩
  · have h1 := h.1 i (by rw [du_n]; exact hi)
    rw [du_free p c hi] at h1
    refine ⟨fun e => ?_, fun e => ?_⟩
    · have h2 := h1 (by rw [e]; rfl)
      show 0 ≤ sgL p i * z i
      unfold sgL
      rw [if_neg (by omega)]; grind
    · have h2 := h1 (by rw [e]; rfl)
      show sgL p i * z i ≤ 0
      unfold sgL
      rw [if_pos e]; grind
  · have h1 := h.2 j (by rw [du_m]; exact hj)
    rw [du_rel p c hj, du_dot hj, du_b p c hj] at h1
    by_cases hf : p.lp.free j = true
    · rw [if_pos hf] at h1
      have h2 := h1.2.1 rfl
      exact ⟨by grind, fun _ => by grind⟩
    · rw [if_neg hf] at h1
      have h2 := h1.1 rfl
      exact ⟨by grind, fun e => absurd e hf⟩
theorem sgL_twice (y : Nat → Rat) : (fun i => sgL p i * (sgL p i * y i)) = y := by
  funext i
  have := sgL_sq p i
  grind
theorem df_du (hok : p.Ok) {y : Nat → Rat} (h : DF p c y) : (duP p c).lp.Meets 1 (fun i => sgL p i * y i) := by
  refine ⟨fun i hi hf => ?_, fun j hj => ?_⟩
  · rw [du_n] at hi
    rw [du_free p c hi] at hf
    have hv := hok.valid i hi
    have h1 := h.signed i hi
    have h2 : ¬ p.lp.rel i = 2 := by simpa using hf
    show 0 ≤ sgL p i * y i
    unfold sgL
    by_cases e : p.lp.rel i = 1
    · have h3 := h1.2 e
      rw [if_pos e]; grind
    · have h3 := h1.1 (by omega)
      rw [if_neg e]; grind
  · rw [du_m] at hj
    rw [du_rel p c hj, du_dot hj, du_b p c hj, sgL_twice]
    have h1 := h.cols j hj
    by_cases hf : p.lp.free j = true
    · rw [if_pos hf]
      have h2 := h1.2 hf
      exact ⟨fun e => by omega, fun _ => by grind, fun e => by omega⟩
    · rw [if_neg hf]
      exact ⟨fun _ => by grind, fun e => by omega, fun e => by omega⟩
theorem df_weak (hok : p.Ok) {x y : Nat → Rat} (hx : p.lp.Meets 1 x) (h : DF p c y) : p.lp.bndsum y ≤ dotN p.lp.n (fn c) x := by
  have h1 := LP.weak hok.valid hx h.signed
  rw [Rat.mul_one] at h1
  refine Rat.le_trans h1 (sumN_le fun j hj => ?_)
  have h2 := h.cols j hj
  by_cases hf : p.lp.free j = true
  · rw [h2.2 hf]; exact Rat.le_refl
  · have h3 := hx.1 j hj (by simpa using hf)
    exact Rat.mul_le_mul_of_nonneg_right h2.1 h3
theorem du_weak (hok : p.Ok) {x z : Nat → Rat} (hx : p.lp.Meets 1 x) (hz : (duP p c).lp.Meets 1 z) : 0 ≤ dotN p.lp.n (fn c) x + dotN (duP p c).lp.n (fn (duO p)) z := by
  have h1 := df_weak hok hx (du_df hok hz)
  rw [du_obj]; grind
theorem du_opt (hok : p.Ok) {x y : Nat → Rat} (h : p.lp.CertOpt (fn c) x y) : (duP p c).lp.IsOpt (fn (duO p)) (-dotN p.lp.n (fn c) x) := by
  have hd : DF p c y := ⟨h.signed, fun j hj => by
    have h1 := h.cols j hj
    exact ⟨by grind, fun e => by have := h1.2 e; grind⟩⟩
  refine ⟨⟨_, df_du hok hd, ?_⟩, fun z hz => ?_⟩
  · rw [du_obj, sgL_twice, h.eq]
  · have := du_weak hok h.feas hz
    grind
theorem du_inf (hok : p.Ok) {y : Nat → Rat} (h : p.lp.CertInf y) {w : Rat} : ¬ (duP p c).lp.IsOpt (fn (duO p)) w := fun ⟨⟨z, hz, e⟩, hmin⟩ => by
  have hd := du_df hok hz
  have hs : ∀ j, p.lp.colsum (fun i => sgL p i * z i + y i) j = p.lp.colsum (fun i => sgL p i * z i) j + p.lp.colsum y j := fun j => by
    unfold LP.colsum
    rw [← sumN_add]
    exact sumN_congr fun i _ => by grind
  have hb : p.lp.bndsum (fun i => sgL p i * z i + y i) = p.lp.bndsum (fun i => sgL p i * z i) + p.lp.bndsum y := by
    unfold LP.bndsum
    rw [← sumN_add]
    exact sumN_congr fun i _ => by grind
  have hd2 : DF p c (fun i => sgL p i * z i + y i) := ⟨fun i hi => by
    have h1 := hd.signed i hi
    have h2 := h.signed i hi
    exact ⟨fun e => by have := h1.1 e; have := h2.1 e; grind, fun e => by have := h1.2 e; have := h2.2 e; grind⟩, fun j hj => by
    have h1 := hd.cols j hj
    have h2 := h.cols j hj
    rw [hs]
    exact ⟨by grind, fun e => by have := h1.2 e; have := h2.2 e; grind⟩⟩
  have h3 := hmin _ (df_du hok hd2)
  rw [du_obj, sgL_twice, hb] at h3
  rw [du_obj] at e
  have := h.pos
  grind
theorem du_unb (hok : p.Ok) (h : p.lp.IsUnb (fn c)) : (duP p c).lp.IsInf := fun z hz => by
  obtain ⟨x, hx, hlt⟩ := h.2 (p.lp.bndsum (fun i => sgL p i * z i))
  have := df_weak hok hx (du_df hok hz)
  grind
theorem du_ok (hok : p.Ok) (hm : p.rows.length ≤ 400) : (duP p c).Ok := by
  have hn := hok.cols
  refine ⟨by show (duF p).length ≤ 400; simpa [duF] using hm, by show ((List.range p.free.length).map (duR p c)).length ≤ 800; simp; omega, fun j r hr => ?_⟩
  have hr' : ((List.range p.free.length).map (duR p c))[j]? = some r := hr
  rw [List.getElem?_map] at hr'
  cases hj : (List.range p.free.length)[j]? with
  | none => rw [hj] at hr'; cases hr'
  | some k =>
    rw [hj] at hr'
    simp only [Option.map_some, Option.some.injEq] at hr'
    subst hr'
    refine ⟨by show (duC p k).length = (duF p).length; simp [duC, duF], ?_⟩
    show (if p.lp.free k then (2 : Int) else 1) = 1 ∨ _
    by_cases hf : p.lp.free k = true
    · exact .inr (.inl (if_pos hf))
    · exact .inl (if_neg hf)
theorem duO_len : (duO p).length = p.rows.length := by simp [duO]
theorem duF_len : (duP p c).free.length = p.rows.length := by show (duF p).length = _; simp [duF]
theorem duR_len : (duP p c).rows.length = p.free.length := by show ((List.range p.free.length).map (duR p c)).length = _; simp
theorem duRow_len {r : List Rat × Int × Rat} (h : r ∈ (duP p c).rows) : r.1.length = p.rows.length := by
  obtain ⟨j, _, rfl⟩ := List.mem_map.1 h
  show (duC p j).length = _
  simp [duC]
end
end Go.Eng
