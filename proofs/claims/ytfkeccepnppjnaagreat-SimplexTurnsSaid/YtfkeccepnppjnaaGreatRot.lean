/- Programs whose rows and columns are turned: they have the same results. -/
import Derived.Test.YtfkeccepnppjnaaGreatA11
set_option linter.unusedVariables false
namespace Lp
theorem sumN_split (a b : Nat) (f : Nat → Rat) : sumN (a + b) f = sumN a f + sumN b (fun j => f (a + j)) := by
  induction b with
  | zero => rw [Nat.add_zero, sumN_zero]; grind
  | succ b ih => rw [← Nat.add_assoc, sumN_succ, sumN_succ, ih]; grind
/-- Where the element at j was. -/
def rx (n s j : Nat) : Nat := if j < n - s then s + j else j - (n - s)
theorem rx_lt {n s j : Nat} (hs : s ≤ n) (hj : j < n) : rx n s j < n := by unfold rx; split <;> omega
theorem rx_rx {n s j : Nat} (hs : s ≤ n) (hj : j < n) : rx n (n - s) (rx n s j) = j := by unfold rx; split <;> split <;> omega
theorem sum_rx {n s : Nat} (hs : s ≤ n) (f : Nat → Rat) : sumN n (fun j => f (rx n s j)) = sumN n f := by
  have e1 : sumN n (fun j => f (rx n s j)) = sumN (n - s) (fun j => f (s + j)) + sumN s f := by
    have := sumN_split (n - s) s (fun j => f (rx n s j))
    rw [show n - s + s = n by omega] at this
    rw [this]
    congr 1
    · exact sumN_congr fun j hj => by unfold rx; rw [if_pos hj]
    · exact sumN_congr fun j hj => by unfold rx; rw [if_neg (by omega)]; congr 1; omega
  have e2 := sumN_split s (n - s) f
  rw [show s + (n - s) = n by omega] at e2
  rw [e1, e2]; grind
def rot {α : Type} (s : Nat) (l : List α) : List α := l.drop s ++ l.take s
theorem rot_len {α : Type} {s : Nat} {l : List α} (h : s ≤ l.length) : (rot s l).length = l.length := by unfold rot; rw [List.length_append, List.length_drop, List.length_take]; omega
theorem rot_get {α : Type} {s j : Nat} {l : List α} (hs : s ≤ l.length) (hj : j < l.length) : (rot s l)[j]? = l[rx l.length s j]? := by
  unfold rot rx
  by_cases h : j < l.length - s
  · rw [if_pos h, List.getElem?_append_left (by rw [List.length_drop]; exact h), List.getElem?_drop]
  · rw [if_neg h, List.getElem?_append_right (by rw [List.length_drop]; omega), List.length_drop, List.getElem?_take, if_pos (by omega)]
/-- q is p with other places for rows and columns. -/
structure Turn (p q : LP) (c d : Nat → Rat) (σ τ : Nat → Nat) : Prop where
  n : q.n = p.n
  m : q.m = p.m
  sm : ∀ f, sumN p.n (fun j => f (σ j)) = sumN p.n f
  cl : ∀ j, j < p.n → σ j < p.n
  rw_ : ∀ i, i < p.m → τ i < p.m
  fr : ∀ j, j < p.n → q.free j = p.free (σ j)
  a : ∀ i j, i < p.m → j < p.n → q.a i j = p.a (τ i) (σ j)
  rel : ∀ i, i < p.m → q.rel i = p.rel (τ i)
  b : ∀ i, i < p.m → q.b i = p.b (τ i)
  c : ∀ j, j < p.n → d j = c (σ j)
section
variable {p q : LP} {c d : Nat → Rat} {σ τ σ' τ' : Nat → Nat}
theorem Turn.meets (h : Turn p q c d σ τ) {t : Rat} {x : Nat → Rat} (hx : p.Meets t x) : q.Meets t (fun j => x (σ j)) := by
  refine ⟨fun j hj hf => ?_, fun i hi => ?_⟩
  · rw [h.n] at hj
    rw [h.fr j hj] at hf
    exact hx.1 _ (h.cl j hj) hf
  · rw [h.m] at hi
    have h1 := hx.2 _ (h.rw_ i hi)
    have e : dotN q.n (q.a i) (fun j => x (σ j)) = dotN p.n (p.a (τ i)) x := by
      unfold dotN
      rw [h.n, ← h.sm (fun j => p.a (τ i) j * x j)]
      exact sumN_congr fun j hj => by rw [h.a i j hi hj]
    rw [e, h.rel i hi, h.b i hi]; exact h1
theorem Turn.dot (h : Turn p q c d σ τ) (x : Nat → Rat) : dotN q.n d (fun j => x (σ j)) = dotN p.n c x := by
  unfold dotN
  rw [h.n, ← h.sm (fun j => c j * x j)]
  exact sumN_congr fun j hj => by rw [h.c j hj]
theorem Turn.inf (h' : Turn q p d c σ' τ') (h : p.IsInf) : q.IsInf := fun _ hy => h _ (h'.meets hy)
theorem Turn.opt (h : Turn p q c d σ τ) (h' : Turn q p d c σ' τ') {u : Rat} (k : p.IsOpt c u) : q.IsOpt d u := by
  obtain ⟨⟨x, hx, e⟩, k2⟩ := k
  refine ⟨⟨_, h.meets hx, by rw [h.dot, e]⟩, fun y hy => ?_⟩
  have := k2 _ (h'.meets hy)
  rwa [h'.dot] at this
theorem Turn.unb (h : Turn p q c d σ τ) (k : p.IsUnb c) : q.IsUnb d := by
  obtain ⟨⟨x, hx⟩, k2⟩ := k
  refine ⟨⟨_, h.meets hx⟩, fun v => ?_⟩
  obtain ⟨y, hy, hv⟩ := k2 v
  exact ⟨_, h.meets hy, by rw [h.dot]; exact hv⟩
end
/-- A program with its rows and columns turned. -/
def rotP (k s : Nat) (p : Prg) : Prg := ⟨rot s p.free, (rot k p.rows).map fun r => (rot s r.1, r.2.1, r.2.2)⟩
theorem rotP_ok {k s : Nat} {p : Prg} (h : p.Ok) (hs : s ≤ p.free.length) (hk : k ≤ p.rows.length) : (rotP k s p).Ok := by
  refine ⟨by show (rot s p.free).length ≤ 400; rw [rot_len hs]; exact h.cols, by show ((rot k p.rows).map _).length ≤ 800; rw [List.length_map, rot_len hk]; exact h.rows, fun i r hr => ?_⟩
  have hr : ((rot k p.rows).map fun r => (rot s r.1, r.2.1, r.2.2))[i]? = some r := hr
  have hi := (List.getElem?_eq_some_iff.1 hr).1
  rw [List.length_map, rot_len hk] at hi
  rw [List.getElem?_map, rot_get hk hi] at hr
  cases hr0 : p.rows[rx p.rows.length k i]? with
  | none => rw [hr0] at hr; cases hr
  | some r0 =>
    rw [hr0] at hr
    cases hr
    have h1 := h.row _ _ hr0
    refine ⟨?_, h1.2⟩
    show (rot s r0.1).length = (rot s p.free).length
    rw [rot_len hs, rot_len (by rw [h1.1]; exact hs), h1.1]
theorem rotP_turn {k s : Nat} {p : Prg} {c : List Rat} (h : p.Ok) (hs : s ≤ p.free.length) (hk : k ≤ p.rows.length) (hc : c.length = p.free.length) :
    Turn p.lp (rotP k s p).lp (fn c) (fn (rot s c)) (rx p.free.length s) (rx p.rows.length k) ∧ Turn (rotP k s p).lp p.lp (fn (rot s c)) (fn c) (rx p.free.length (p.free.length - s)) (rx p.rows.length (p.rows.length - k)) := by
  have en : (rotP k s p).lp.n = p.free.length := rot_len hs
  have em : (rotP k s p).lp.m = p.rows.length := by show ((rot k p.rows).map _).length = _; rw [List.length_map, rot_len hk]
  have efr : ∀ j, j < p.free.length → (rotP k s p).lp.free j = p.lp.free (rx p.free.length s j) := fun j hj => by
    show (rot s p.free).getD j false = p.free.getD _ false
    rw [List.getD, List.getD, rot_get hs hj]
  have erow : ∀ i, i < p.rows.length → (rotP k s p).row i = (rot s (p.row (rx p.rows.length k i)).1, (p.row (rx p.rows.length k i)).2.1, (p.row (rx p.rows.length k i)).2.2) := fun i hi => by
    have h1 : p.rows[rx p.rows.length k i]? = some (p.rows[rx p.rows.length k i]'(rx_lt hk hi)) := List.getElem?_eq_getElem (rx_lt hk hi)
    rw [Prg.row_get h1]
    apply Prg.row_get
    show ((rot k p.rows).map _)[i]? = _
    rw [List.getElem?_map, rot_get hk hi, h1]; rfl
  have efn : ∀ (l : List Rat) j, l.length = p.free.length → j < p.free.length → fn (rot s l) j = fn l (rx p.free.length s j) := fun l j hl hj => by
    unfold fn
    rw [List.getD, List.getD, rot_get (by omega) (by omega), hl]
  have erl : ∀ i, i < p.rows.length → (p.row i).1.length = p.free.length := fun i hi => by
    rw [Prg.row_get (List.getElem?_eq_getElem hi)]
    exact (h.row i _ (List.getElem?_eq_getElem hi)).1
  have ea : ∀ i j, i < p.rows.length → j < p.free.length → (rotP k s p).lp.a i j = p.lp.a (rx p.rows.length k i) (rx p.free.length s j) := fun i j hi hj => by
    show fn ((rotP k s p).row i).1 j = fn (p.row _).1 _
    rw [erow i hi, efn _ j (erl _ (rx_lt hk hi)) hj]
  have erel : ∀ i, i < p.rows.length → (rotP k s p).lp.rel i = p.lp.rel (rx p.rows.length k i) := fun i hi => by
    show ((rotP k s p).row i).2.1 = (p.row _).2.1
    rw [erow i hi]
  have eb : ∀ i, i < p.rows.length → (rotP k s p).lp.b i = p.lp.b (rx p.rows.length k i) := fun i hi => by
    show ((rotP k s p).row i).2.2 = (p.row _).2.2
    rw [erow i hi]
  have hs' : p.free.length - s ≤ p.free.length := by omega
  have hk' : p.rows.length - k ≤ p.rows.length := by omega
  have bs : ∀ j, j < p.free.length → rx p.free.length s (rx p.free.length (p.free.length - s) j) = j := fun j hj => by
    have := rx_rx hs' hj
    rwa [show p.free.length - (p.free.length - s) = s by omega] at this
  have bk : ∀ i, i < p.rows.length → rx p.rows.length k (rx p.rows.length (p.rows.length - k) i) = i := fun i hi => by
    have := rx_rx hk' hi
    rwa [show p.rows.length - (p.rows.length - k) = k by omega] at this
  refine ⟨⟨en, em, sum_rx hs, fun j hj => rx_lt hs hj, fun i hi => rx_lt hk hi, efr, ea, erel, eb, fun j hj => efn c j hc hj⟩, ⟨en.symm, em.symm, ?_, ?_, ?_, ?_, ?_, ?_, ?_, ?_⟩⟩
  · rw [en]; exact sum_rx hs'
  · rw [en]; exact fun j hj => rx_lt hs' hj
  · rw [em]; exact fun i hi => rx_lt hk' hi
  · rw [en]; exact fun j hj => by rw [efr _ (rx_lt hs' hj), bs j hj]
  · rw [en, em]; exact fun i j hi hj => by rw [ea _ _ (rx_lt hk' hi) (rx_lt hs' hj), bs j hj, bk i hi]
  · rw [em]; exact fun i hi => by rw [erel _ (rx_lt hk' hi), bk i hi]
  · rw [em]; exact fun i hi => by rw [eb _ (rx_lt hk' hi), bk i hi]
  · rw [en]; exact fun j hj => by rw [efn c _ hc (rx_lt hs' hj), bs j hj]
end Lp
