/- A multiple of the first objective added to the second one (plain). -/
import Derived.Test.YtfjncmjbhfdnpaaGreatA10
import Derived.Test.YtfjncmjbhfdnpaaGreatLw1
set_option linter.unusedVariables false
namespace Go.Eng
open Go.Proofs Num Lp
theorem opt_move {q q' : LP} {c c' : Nat → Rat} {v k : Rat} (hm : ∀ x, q'.Meets 1 x ↔ q.Meets 1 x) (hd : ∀ x, q.Meets 1 x → dotN q'.n c' x = dotN q.n c x + k) (h : q.IsOpt c v) : q'.IsOpt c' (v + k) := by
  obtain ⟨⟨x, hx, rfl⟩, h2⟩ := h
  exact ⟨⟨x, (hm x).2 hx, hd x hx⟩, fun y hy => by
    have h3 := (hm y).1 hy
    rw [hd y h3]
    have := h2 y h3
    grind⟩
theorem unb_move {q q' : LP} {c c' : Nat → Rat} {k : Rat} (hm : ∀ x, q'.Meets 1 x ↔ q.Meets 1 x) (hd : ∀ x, q.Meets 1 x → dotN q'.n c' x = dotN q.n c x + k) (h : q.IsUnb c) : q'.IsUnb c' := by
  obtain ⟨⟨x, hx⟩, h2⟩ := h
  refine ⟨⟨x, (hm x).2 hx⟩, fun v => ?_⟩
  obtain ⟨y, hy, hlt⟩ := h2 (v - k)
  exact ⟨y, (hm y).2 hy, by rw [hd y hy]; grind⟩
/-- The second objective with f times the first one. -/
def mixO (f : Rat) (a b : List Rat) (n : Nat) : List Rat := vals (fun j => fn b j + f * fn a j) n
theorem mixO_dot {f : Rat} {a b : List Rat} {n : Nat} (x : Nat → Rat) : dotN n (fn (mixO f a b n)) x = dotN n (fn b) x + f * dotN n (fn a) x := by
  unfold dotN
  rw [← sumN_mul, ← sumN_add]
  exact sumN_congr fun j hj => by rw [mixO, fn_vals hj]; grind
section
variable {p : Prg} {os : List (List Rat)} {vs : List Rat} {a b : List Rat} {f w : Rat}
theorem mix_meets (h0 : os[0]? = some a) (h1 : os[1]? = some b) (hl : vs.length ≤ os.length) (hw : 1 < vs.length → w = fn vs 1 + f * fn vs 0) (x : Nat → Rat) :
    (extP p (os.set 1 (mixO f a b p.free.length)) (vs.set 1 w)).lp.Meets 1 x ↔ (extP p os vs).lp.Meets 1 x := by
  have hol := (List.getElem?_eq_some_iff.1 h1).1
  rw [ext_meets (by rw [List.length_set, List.length_set]; exact hl), ext_meets hl]
  have get : ∀ {k}, k < vs.length → vs[k]? = some (fn vs k) := fun {k} hk => by rw [List.getElem?_eq_getElem hk, fn_get (List.getElem?_eq_getElem hk)]
  refine and_congr_right fun _ => ⟨fun h i o v k1 k2 => ?_, fun h i o v k1 k2 => ?_⟩
  · by_cases e : i = 1
    · subst e
      have hl1 := (List.getElem?_eq_some_iff.1 k2).1
      rw [h1] at k1
      cases k1
      have g0 := h 0 a (fn vs 0) (by rw [List.getElem?_set_ne (by decide)]; exact h0) (by rw [List.getElem?_set_ne (by decide)]; exact get (by omega))
      have g1 := h 1 _ w (List.getElem?_set_self hol) (List.getElem?_set_self hl1)
      rw [mixO_dot, hw hl1] at g1
      rw [get hl1] at k2
      cases k2
      grind
    · exact h i o v (by rw [List.getElem?_set_ne (fun e' => e e'.symm)]; exact k1) (by rw [List.getElem?_set_ne (fun e' => e e'.symm)]; exact k2)
  · by_cases e : i = 1
    · subst e
      have hl1 := (List.getElem?_eq_some_iff.1 k2).1
      rw [List.length_set] at hl1
      rw [List.getElem?_set_self hol] at k1
      rw [List.getElem?_set_self hl1] at k2
      cases k1
      cases k2
      have g0 := h 0 a _ h0 (get (by omega))
      have g1 := h 1 b _ h1 (get hl1)
      rw [mixO_dot, hw hl1]
      grind
    · rw [List.getElem?_set_ne (fun e' => e e'.symm)] at k1 k2
      exact h i o v k1 k2
theorem take_set1 (i : Nat) : (vs.set 1 w).take i = (vs.take i).set 1 w := by
  apply List.ext_getElem?
  intro k
  by_cases hk : k < i
  · rw [List.getElem?_take, if_pos hk]
    by_cases e : k = 1
    · subst e
      by_cases hl : 1 < vs.length
      · rw [List.getElem?_set_self hl, List.getElem?_set_self (by rw [List.length_take]; omega)]
      · rw [List.getElem?_eq_none (by rw [List.length_set]; omega), List.getElem?_eq_none (by rw [List.length_set, List.length_take]; omega)]
    · rw [List.getElem?_set_ne (fun e' => e e'.symm), List.getElem?_set_ne (fun e' => e e'.symm), List.getElem?_take, if_pos hk]
  · rw [List.getElem?_eq_none (by rw [List.length_take]; omega), List.getElem?_eq_none (by rw [List.length_set, List.length_take]; omega)]
theorem fn_take {l : List Rat} {i k : Nat} (h : k < i) : fn (l.take i) k = fn l k := by
  unfold fn
  rw [List.getD, List.getD, List.getElem?_take, if_pos h]
theorem mix_take (h0 : os[0]? = some a) (h1 : os[1]? = some b) (hl : vs.length ≤ os.length) (hw : 1 < vs.length → w = fn vs 1 + f * fn vs 0) (i : Nat) (x : Nat → Rat) :
    (extP p (os.set 1 (mixO f a b p.free.length)) ((vs.set 1 w).take i)).lp.Meets 1 x ↔ (extP p os (vs.take i)).lp.Meets 1 x := by
  rw [take_set1]
  refine mix_meets h0 h1 (by rw [List.length_take]; omega) (fun hi => ?_) x
  rw [List.length_take] at hi
  rw [fn_take (by omega), fn_take (by omega)]
  exact hw (by omega)
/-- An objective of the mixed ones differs by a constant. -/
theorem mix_dot (h0 : os[0]? = some a) (h1 : os[1]? = some b) {i : Nat} {o o' : List Rat} (k1 : os[i]? = some o) (k2 : (os.set 1 (mixO f a b p.free.length))[i]? = some o') (hl : vs.length ≤ os.length) (hi : i ≤ vs.length) :
    ∃ k, (i ≠ 1 → k = 0) ∧ (i = 1 → k = f * fn vs 0) ∧ ∀ x, (extP p os (vs.take i)).lp.Meets 1 x → dotN p.free.length (fn o') x = dotN p.free.length (fn o) x + k := by
  have hol := (List.getElem?_eq_some_iff.1 h1).1
  by_cases e : i = 1
  · subst e
    rw [List.getElem?_set_self hol] at k2
    rw [h1] at k1
    cases k1; cases k2
    refine ⟨f * fn vs 0, fun h => absurd rfl h, fun _ => rfl, fun x hx => ?_⟩
    have g := ((ext_meets (by rw [List.length_take]; omega)).1 hx).2 0 a (fn vs 0) h0 (by rw [List.getElem?_take, if_pos (by omega), List.getElem?_eq_getElem (by omega), fn_get (List.getElem?_eq_getElem (by omega))])
    rw [mixO_dot]; grind
  · rw [List.getElem?_set_ne (fun e' => e e'.symm), k1] at k2
    cases k2
    exact ⟨0, fun _ => rfl, fun h => absurd h e, fun x _ => by grind⟩
theorem lev_mix (h0 : os[0]? = some a) (h1 : os[1]? = some b) (hw : 1 < vs.length → w = fn vs 1 + f * fn vs 0) (h : Lev p os vs) : Lev p (os.set 1 (mixO f a b p.free.length)) (vs.set 1 w) := by
  refine ⟨by rw [List.length_set, List.length_set]; exact h.1, fun i o' v' k1 k2 => ?_⟩
  have hi := (List.getElem?_eq_some_iff.1 k2).1
  rw [List.length_set] at hi
  have hl := h.1
  obtain ⟨o, ho⟩ : ∃ o, os[i]? = some o := ⟨_, List.getElem?_eq_getElem (by omega)⟩
  obtain ⟨v, hv⟩ : ∃ v, vs[i]? = some v := ⟨_, List.getElem?_eq_getElem hi⟩
  obtain ⟨k, e0, e1, hd⟩ := mix_dot (p := p) (f := f) h0 h1 ho k1 hl (by omega)
  have ev : v' = v + k := by
    by_cases e : i = 1
    · subst e
      rw [List.getElem?_set_self hi] at k2
      cases k2
      rw [e1 rfl, hw hi, fn_get hv]
    · rw [List.getElem?_set_ne (fun e' => e e'.symm), hv] at k2
      cases k2
      rw [e0 e]; grind
  rw [ev]
  exact opt_move (mix_take h0 h1 hl hw i) hd (h.2 i o v ho hv)
theorem lex_mix {st : Int} (h0 : os[0]? = some a) (h1 : os[1]? = some b) (hw : 1 < vs.length → w = fn vs 1 + f * fn vs 0) (h : LexR p os st vs) : LexR p (os.set 1 (mixO f a b p.free.length)) st (vs.set 1 w) := by
  rcases h with ⟨h2, h3, h4, h5⟩ | ⟨h2, h3, h4⟩ | ⟨h2, h3, o, h4, h5⟩
  · exact .inl ⟨h2, by rw [List.length_set, List.length_set]; exact h3, lev_mix h0 h1 hw h4, h5⟩
  · exact .inr (.inl ⟨h2, by rw [h3]; rfl, h4⟩)
  · obtain ⟨o', ho'⟩ : ∃ o', (os.set 1 (mixO f a b p.free.length))[vs.length]? = some o' := ⟨_, List.getElem?_eq_getElem (by rw [List.length_set]; exact (List.getElem?_eq_some_iff.1 h4).1)⟩
    obtain ⟨k, _, _, hd⟩ := mix_dot (p := p) (f := f) h0 h1 h4 ho' h3.1 (Nat.le_refl _)
    rw [List.take_length] at hd
    exact .inr (.inr ⟨h2, lev_mix h0 h1 hw h3, o', by rw [List.length_set]; exact ho', unb_move (mix_meets h0 h1 h3.1 hw) hd h5⟩)
end
end Go.Eng
