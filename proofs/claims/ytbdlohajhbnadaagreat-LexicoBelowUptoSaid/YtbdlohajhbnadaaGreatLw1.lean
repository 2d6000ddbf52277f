/- Walks over packages amortcostref22 (vectors, LexicoError) and amortcostlaw23 (kept, solvable). -/
import Derived.Test.YtbdlohajhbnadaaGreatA10
import Derived.Test.YtbdlohajhbnadaaGreatLx3
import Derived.Test.YtbdlohajhbnadaaGreatVal2
set_option linter.unusedVariables false
namespace Go.Eng
open Go.Proofs Num Lp
theorem LsV.lsts {N : Nat} {H : Heap} {xs : List Value} {ls : List (List Rat)} (h : Els (VecP N H) 1 xs ls) : Lsts N H xs ls := by
  refine ⟨by rw [h.len, Nat.mul_one], fun i v l hv hl => ?_⟩
  obtain ⟨A, c, h1, h2⟩ := vec_get h hl
  rw [h1] at hv
  cases hv; exact h2
theorem Lsts.ls {N : Nat} {H : Heap} {xs : List Value} {ls : List (List Rat)} (h : Lsts N H xs ls) : Els (VecP N H) 1 xs ls := by
  refine ⟨by rw [h.1, Nat.mul_one], fun i l hl => ?_⟩
  have hi := (List.getElem?_eq_some_iff.1 hl).1
  have hx : xs[i]? = some (xs[i]'(by rw [h.1]; exact hi)) := List.getElem?_eq_getElem _
  have h2 := h.2 i _ l hx hl
  rw [seg_one hx]
  obtain ⟨A, c, _, e, _⟩ := id h2
  exact ⟨A, c, by rw [e], by rw [← e]; exact h2⟩
/-- A program and objectives that are small. -/
structure Kpt (H : Heap) (v ov : Value) (p : Prg) (os : List (List Rat)) : Prop where
  sml : PSml H v p 4 5
  obj : LsV 2 H ov os
  len : os.length ≤ 4
  vec : ∀ o, o ∈ os → o.length ≤ 5
theorem flat2_len {k : Nat} : ∀ {l : List (List Rat × Int × Rat)}, (∀ r, r ∈ l → r.1.length ≤ k) → (l.flatMap (·.1)).length ≤ l.length * k
  | [], _ => Nat.zero_le _
  | r :: l, h => by
    have h1 := h r (List.mem_cons_self ..)
    have h2 := flat2_len (l := l) fun r hr => h r (List.mem_cons_of_mem _ hr)
    simp only [List.flatMap_cons, List.length_append, List.length_cons, Nat.add_mul] at *; omega
theorem log63 {x : Nat} (h : x < 2 ^ 63) : x.log2 ≤ 62 := by
  by_cases h0 : x = 0
  · subst h0; decide
  · have := (Nat.log2_lt h0).2 h; omega
theorem val2 {l : List Nat} (h : l.length ≤ 2) (h1 : ∀ x, x ∈ l → x < 4294967296) : val l < 2 ^ 63 := by
  match l, h with
  | [], _ => decide
  | [a], _ =>
    have := h1 a (by simp)
    simp [val]; omega
  | [a, b], _ =>
    have := h1 a (by simp)
    have := h1 b (by simp)
    simp only [val_cons]
    rw [show val [] = 0 from rfl, show B = 1000000000 from rfl]; omega
theorem frac_le {f : Bool} {n d k : Nat} (hk : 0 < k) (hn : n < k) (hd : d < k) (h1 : 1 < k) : (frac f n d).num.natAbs < k ∧ (frac f n d).den < k := by
  by_cases h0 : d = 0
  · subst h0; rw [frac_den0]; exact ⟨hk, h1⟩
  · have hp : 0 < d := by omega
    rw [frac_abs hp, frac_den hp]
    exact ⟨Nat.lt_of_le_of_lt (Nat.div_le_self _ _) hn, Nat.lt_of_le_of_lt (Nat.div_le_self _ _) hd⟩
theorem RawV.two {H : Heap} {v : Value} {q : Rat} (h : RawV H v q 2) : q.num.natAbs < 2 ^ 63 ∧ q.den < 2 ^ 63 := by
  obtain ⟨f, u, w, l1, l2, _, _, _, h3, h4, h5, h6, rfl⟩ := h
  exact frac_le (by decide) (val2 h5 h3) (val2 h6 h4) (by decide)
theorem wt2 {q : Rat} (h : q.num.natAbs < 2 ^ 63 ∧ q.den < 2 ^ 63) : Tab.wt q ≤ 126 := by
  have h1 := log63 h.1
  have h2 := log63 h.2
  unfold Tab.wt; omega
theorem SlV.two {H : Heap} {v : Value} {l : List Rat} (h : SlV (RatP 2) 3 H v l) : ∀ q, q ∈ l → q.num.natAbs < 2 ^ 63 ∧ q.den < 2 ^ 63 := fun q hq => by
  obtain ⟨A, cc, xs, _, _, _, h4⟩ := h
  obtain ⟨k, hk⟩ := List.getElem?_of_mem hq
  exact RawV.two (h4.at_ k q hk)
theorem ProgV.two {H : Heap} {v : Value} {p : Prg} (h : ProgV 2 H v p) : ∀ r, r ∈ p.rows → (∀ q, q ∈ r.1 → q.num.natAbs < 2 ^ 63 ∧ q.den < 2 ^ 63) ∧ (r.2.2.num.natAbs < 2 ^ 63 ∧ r.2.2.den < 2 ^ 63) := fun r hr => by
  obtain ⟨fv, rv, _, _, h3⟩ := h
  obtain ⟨A, c, xs, _, _, _, h4⟩ := h3
  obtain ⟨i, hi⟩ := List.getElem?_of_mem hr
  obtain ⟨c', f, u, w, _, k2, k3⟩ := h4.at_ i r hi
  exact ⟨k2.two, RawV.two k3⟩
theorem kept3_ok {H : Heap} {v ov : Value} {p : Prg} {os : List (List Rat)} {N : Nat} (hp : ProgV N H v p) (ho : LsV N H ov os) :
  Fn Tryz.prog 14 #[v, ov] H (fun v' H' => H' = H ∧ ∃ b, v' = .bool b ∧ (b = true → Kpt H v ov p os)) := by
 obtain ⟨fv, rv0, rfl, hfv, hrv0⟩ := id hp
 obtain ⟨Af, cf, xf, rfl, hrF, hxF⟩ := hfv.one
 obtain ⟨Ar, cr, xr, rfl, hcr, hrR, hxR⟩ := id hrv0
 obtain ⟨Ao, co, xo, rfl, hco, hro, hxo⟩ := id ho; refine fn_intro (args := [_, _]) Tryz.func14 rfl rfl Tryz.ntmps14 rfl rfl fun w0 => ?_; refine vc_keep [0, 1] rfl ?_; refine vc_sr ?_; refine vco_box rfl rfl ?_; refine vr 1 ?_; refine vco_k [1, 2] ?_; refine vc_sr ?_; refine vr 1 ?_; refine vco_call rfl rfl (kProgram_ok (n := 4) (m := 5) hp (by omega) (by omega)) ?_; rintro _ H2 ⟨e2, b2, rfl, hb2⟩; rw [e2]
 cases b2
 ·
  skip
  refine vr 5 ?_; refine vco_k [4] ?_; refine vc_ret ⟨.inr rfl, _, .tmp rfl (.nil), ?_⟩; exact ⟨rfl, false, rfl, fun h => by cases h⟩
 ·
  skip
  refine vr 2 ?_; refine vco_call rfl rfl (kLists_ok (m := 4) (n := 5) hro rfl (LsV.lsts hxo) (by omega) (by omega)) ?_; rintro _ H3 ⟨e3, b3, rfl, hb3⟩; rw [e3]; refine vr 2 ?_; refine vco_k [4] ?_; refine vc_ret ⟨.inr rfl, _, .tmp rfl (.nil), ?_⟩; exact ⟨rfl, b3, rfl, fun h => ⟨hb2 rfl, ⟨Ao, co, xo, rfl, hco, hro, (hb3 h).1.ls⟩, (hb3 h).2.2, (hb3 h).2.1⟩⟩
end Go.Eng
