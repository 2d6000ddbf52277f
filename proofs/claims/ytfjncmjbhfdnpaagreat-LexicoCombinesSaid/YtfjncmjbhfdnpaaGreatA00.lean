/- Part 0 of the proof: Eng1, Eng2, Eng3, Eng4, Eng5. -/
import Derived.Orders
import Derived.Tactics
import Derived.Maps.AppendAt
import Derived.Laws.OwnMore
import Derived.Laws.MakeOwn
import Derived.Below
set_option linter.unusedVariables false
/- The engine, part 1: abstract states (slots, local boxes, an abstract heap) and what it means that a machine state fits one. -/
namespace Go.Eng
/-- What is known of a slot: its value; or that it points to a local variable in memory, with the variable's cells; or that it points into such a variable. -/
inductive Slot where
  | val (v : Value)
  | box (cs : List Value)
  | ref (b off : Nat)
abbrev St := Nat → Option Slot
def emp : St := fun _ => none
def put (s : St) (d : Nat) (x : Slot) : St := fun t => cond (Nat.beq t d) (some x) (s t)
def putBox (s : St) (d : Nat) (cs : List Value) : St := fun t =>
  cond (Nat.beq t d) (some (.box cs)) (match s t with | some (.ref b o) => cond (Nat.beq b d) none (some (.ref b o)) | x => x)
def putO (s : St) (d : Option Nat) (x : Slot) : St := match d with | some d => put s d x | none => s
theorem put_same (s : St) (d : Nat) (x : Slot) : put s d x d = some x := by simp [put]
theorem put_other (s : St) {d t : Nat} (x : Slot) (h : t ≠ d) : put s d x t = s t := by
  have : Nat.beq t d = false := by
    cases hb : Nat.beq t d with
    | false => rfl
    | true => exact absurd (Nat.eq_of_beq_eq_true hb) h
  simp [put, this]
theorem put_comm (s : St) {d e : Nat} (x y : Slot) (h : d ≠ e) : put (put s d x) e y = put (put s e y) d x := by
  funext t
  by_cases h1 : t = d
  · subst h1; rw [put_other _ _ h, put_same, put_same]
  · by_cases h2 : t = e
    · subst h2; rw [put_same, put_other _ _ h1, put_same]
    · rw [put_other _ _ h2, put_other _ _ h1, put_other _ _ h1, put_other _ _ h2]
/-- A block of the abstract heap: its first cells, the number of all, the element type, and whether it may be written. -/
structure Ent where
  xs : List Value
  size : Nat
  elem : TypeId
  own : Bool
def Ent.of (e : Ent) (o : Obj) : Prop :=
  ∃ (c : Array Value) (fz : Nat × Nat), o = .cells c e.elem fz ∧ c.size = e.size ∧ (∀ (i : Nat) (v : Value), e.xs[i]? = some v → c[i]? = some v) ∧ (e.own = true → fz = (0, 0))
abbrev Heap := Nat → Option Ent
def Den (H : Heap) (w : World) : Prop := ∀ g e, H g = some e → ∃ o, w.heap[g]? = some o ∧ e.of o
def ins (H : Heap) (g : Nat) (e : Ent) : Heap := fun k => if k = g then some e else H k
theorem ins_same (H : Heap) (g : Nat) (e : Ent) : ins H g e g = some e := by simp [ins]
theorem ins_other (H : Heap) {g k : Nat} (e : Ent) (h : k ≠ g) : ins H g e k = H k := by simp [ins, h]
def Ent.le (e e' : Ent) : Prop := e'.size = e.size ∧ e'.elem = e.elem ∧ e'.own = e.own ∧ e.xs <+: e'.xs
def Heap.le (H H' : Heap) : Prop := ∀ g e, H g = some e → ∃ e', H' g = some e' ∧ e.le e'
theorem Ent.le.refl (e : Ent) : e.le e := ⟨rfl, rfl, rfl, List.prefix_rfl⟩
theorem Ent.le.trans {a b c : Ent} (h : a.le b) (k : b.le c) : a.le c :=
  ⟨k.1.trans h.1, k.2.1.trans h.2.1, k.2.2.1.trans h.2.2.1, h.2.2.2.trans k.2.2.2⟩
theorem Heap.le.refl (H : Heap) : Heap.le H H := fun _ e h => ⟨e, h, .refl e⟩
theorem Heap.le.trans {A B C : Heap} (h : Heap.le A B) (k : Heap.le B C) : Heap.le A C := fun g e he => by
  obtain ⟨e', h1, h2⟩ := h g e he
  obtain ⟨e'', h3, h4⟩ := k g e' h1
  exact ⟨e'', h3, h2.trans h4⟩
theorem Heap.le_ins {H : Heap} {g : Nat} (e : Ent) (h : H g = none) : Heap.le H (ins H g e) := fun k x hk =>
  ⟨x, by rw [ins_other _ _ (fun e => by subst e; rw [h] at hk; cases hk)]; exact hk, .refl x⟩
theorem prefix_get {l l' : List Value} (h : l <+: l') {i : Nat} {v : Value} (hi : l[i]? = some v) : l'[i]? = some v := by
  obtain ⟨t, rfl⟩ := h
  rw [List.getElem?_append_left (List.getElem?_eq_some_iff.1 hi).1]; exact hi
theorem Ent.le.of {e e' : Ent} (h : e.le e') {o : Obj} (ho : e'.of o) : e.of o := by
  obtain ⟨c, fz, h1, h2, h3, h4⟩ := ho
  exact ⟨c, fz, by rw [h1, h.2.1], by rw [h2, h.1], fun i v hv => h3 i v (prefix_get h.2.2.2 hv), fun ho => h4 (h.2.2.1.trans ho)⟩
theorem Den.le {H H' : Heap} (h : Heap.le H H') {w : World} (hd : Den H' w) : Den H w := fun g e he => by
  obtain ⟨e', h1, h2⟩ := h g e he
  obtain ⟨o, h3, h4⟩ := hd g e' h1
  exact ⟨o, h3, h2.of h4⟩
theorem Den.lt {H : Heap} {w : World} (h : Den H w) {g : Nat} {e : Ent} (hg : H g = some e) : g < w.heap.size := by
  obtain ⟨o, h1, _⟩ := h g e hg
  exact (Array.getElem?_eq_some_iff.1 h1).1
theorem Den.fresh {H : Heap} {w : World} (h : Den H w) : H w.heap.size = none := by
  cases hg : H w.heap.size with
  | none => rfl
  | some e => have := h.lt hg; omega
/-- A cell of the abstract heap. -/
def cell (H : Heap) (a : Addr) : Option Value :=
  match H a.block with
  | some e => if a.spot.isSome then none else e.xs[a.off]?
  | none => none
theorem Den.cell {H : Heap} {w : World} (h : Den H w) {a : Addr} {v : Value} (hc : cell H a = some v) : w.cell? a = some v := by
  unfold Eng.cell at hc
  cases hg : H a.block with
  | none => rw [hg] at hc; cases hc
  | some e =>
    rw [hg] at hc
    obtain ⟨o, h1, c, fz, rfl, h3, h4, _⟩ := h _ _ hg
    simp only at hc
    split at hc
    · cases hc
    · rename_i hs
      simp [World.cell?, h1, hs, h4 _ _ hc]
theorem cell_le {H H' : Heap} (h : Heap.le H H') {a : Addr} {v : Value} (hc : cell H a = some v) : cell H' a = some v := by
  unfold cell at hc ⊢
  cases hg : H a.block with
  | none => rw [hg] at hc; cases hc
  | some e =>
    rw [hg] at hc
    obtain ⟨e', h1, h2⟩ := h _ _ hg
    rw [h1]
    simp only at hc ⊢
    split at hc
    · cases hc
    · rename_i hs
      rw [if_neg hs]; exact prefix_get h2.2.2.2 hc
/-- What lies outside the abstract heap has not turned, and is still outside. -/
structure Fx (H : Heap) (w : World) (H' : Heap) (w' : World) : Prop where
  os : w'.os = w.os
  tape : w'.tape = w.tape
  output : w'.output = w.output
  size : w.heap.size ≤ w'.heap.size
  keep : ∀ g, g < w.heap.size → H g = none → w'.heap[g]? = w.heap[g]? ∧ H' g = none
  form : ∀ (g : Nat) (c : Array Value) (t : TypeId) (fz : Nat × Nat), w.heap[g]? = some (.cells c t fz) → ∃ c', w'.heap[g]? = some (.cells c' t fz) ∧ c'.size = c.size
theorem Fx.refl (H : Heap) (w : World) : Fx H w H w := ⟨rfl, rfl, rfl, Nat.le_refl _, fun _ _ h => ⟨rfl, h⟩, fun _ c _ _ h => ⟨c, h, rfl⟩⟩
theorem Fx.trans {H H' H'' : Heap} {w w' w'' : World} (h : Fx H w H' w') (k : Fx H' w' H'' w'') : Fx H w H'' w'' :=
  ⟨k.os.trans h.os, k.tape.trans h.tape, k.output.trans h.output, Nat.le_trans h.size k.size, fun g hg h0 => by
    have h1 := h.keep g hg h0
    have h2 := k.keep g (Nat.lt_of_lt_of_le hg h.size) h1.2
    exact ⟨h2.1.trans h1.1, h2.2⟩, fun g c t fz hc => by
    obtain ⟨c1, h1, h2⟩ := h.form g c t fz hc
    obtain ⟨c2, h3, h4⟩ := k.form g c1 t fz h1
    exact ⟨c2, h3, h4.trans h2⟩⟩
/-- New memory alone. -/
theorem Fx.form_of {w w' : World} (h : ∀ g, g < w.heap.size → w'.heap[g]? = w.heap[g]?) : ∀ (g : Nat) (c : Array Value) (t : TypeId) (fz : Nat × Nat), w.heap[g]? = some (.cells c t fz) → ∃ c', w'.heap[g]? = some (.cells c' t fz) ∧ c'.size = c.size :=
  fun g c t fz hc => ⟨c, by rw [h g (Array.getElem?_eq_some_iff.1 hc).1]; exact hc, rfl⟩
/-- The machine's frame has n slots, and the values that are known. -/
structure Vals (n : Nat) (s : St) (a : Act) : Prop where
  size : a.tmps.size = n
  at_ : ∀ t v, s t = some (.val v) → a.tmps[t]? = some v
structure Rl (n : Nat) (s : St) (H : Heap) (G : Nat → Nat) (a : Act) (w : World) : Prop where
  vals : Vals n s a
  boxes : ∀ t cs, s t = some (.box cs) → a.tmps[t]? = some (.pointer (some ⟨G t, 0, none⟩)) ∧ H (G t) = none ∧ ∃ e, w.heap[G t]? = some (.cells cs.toArray e (0, 0))
  inj : ∀ t t' cs cs', s t = some (.box cs) → s t' = some (.box cs') → G t = G t' → t = t'
  refs : ∀ t b off cs, s t = some (.ref b off) → s b = some (.box cs) → a.tmps[t]? = some (.pointer (some ⟨G b, off, none⟩))
  den : Den H w
/-- A machine state fits the abstract one, in a call that began at w0 with H0. -/
structure Rel (w0 : World) (H0 : Heap) (n : Nat) (s : St) (H : Heap) (a : Act) (w : World) : Prop where
  defers : a.defers = []
  fits : ∃ G, Rl n s H G a w ∧ ∀ t cs, s t = some (.box cs) → w0.heap.size ≤ G t
  fx : Fx H0 w0 H w
/-- What an operand is known to be. -/
def ev (s : St) : Operand → Option Value
  | .tmp t => match s t with | some (.val v) => some v | _ => none
  | .const v => some v
  | .func f => some (.func (.func f) #[] #[])
  | .global g => some (.pointer (some ⟨g, 0, none⟩))
theorem ev_sound {n : Nat} {s : St} {a : Act} (h : Vals n s a) {x : Operand} {v : Value} (hx : ev s x = some v) : a.eval x = v := by
  cases x with
  | tmp t =>
    simp only [ev] at hx
    cases hs : s t with
    | none => rw [hs] at hx; cases hx
    | some y =>
      rw [hs] at hx
      cases y with
      | val u =>
        simp only [Option.some.injEq] at hx
        subst hx
        have := h.at_ t u hs
        simp [Act.eval, this]
      | box => cases hx
      | ref => cases hx
  | const u => simp only [ev, Option.some.injEq] at hx; exact hx
  | func f => simp only [ev, Option.some.injEq] at hx; exact hx
  | global g => simp only [ev, Option.some.injEq] at hx; exact hx
/-! Changing one slot -/
theorem Act.tmps_put_same (a : Act) (d : Nat) (v : Value) (h : d < a.tmps.size) : (a.put (some d) v).tmps[d]? = some v := by
  simp [Act.put, h]
theorem Act.tmps_put_other (a : Act) {d t : Nat} (v : Value) (h : t ≠ d) : (a.put (some d) v).tmps[t]? = a.tmps[t]? := by
  simp [Act.put, Array.getElem?_setIfInBounds_ne (Ne.symm h)]
theorem Act.put_size (a : Act) (d : Option Tmp) (v : Value) : (a.put d v).tmps.size = a.tmps.size := by
  cases d <;> simp [Act.put]
theorem Act.put_defers' (a : Act) (d : Option Tmp) (v : Value) : (a.put d v).defers = a.defers := by
  cases d <;> rfl
/-- What a slot's knowledge says of the value in it (boxes are laid by other rules). -/
def SlotOk (G : Nat → Nat) : Slot → Value → Prop
  | .val v, u => u = v
  | .ref b off, u => u = .pointer (some ⟨G b, off, none⟩)
  | .box _, _ => False
theorem Rl.put {n : Nat} {s : St} {H : Heap} {G : Nat → Nat} {a : Act} {w : World} (h : Rl n s H G a w) {d : Nat} {x : Slot} {v : Value} (hn : d < n) (hx : SlotOk G x v) :
    Rl n (put s d x) H G (a.put (some d) v) w := by
  have hd : d < a.tmps.size := by rw [h.vals.size]; exact hn
  have nb : ∀ t cs, Eng.put s d x t = some (.box cs) → t ≠ d ∧ s t = some (.box cs) := by
    intro t cs ht
    by_cases e : t = d
    · subst e
      rw [put_same] at ht
      simp only [Option.some.injEq] at ht
      subst ht
      exact hx.elim
    · rw [put_other _ _ e] at ht; exact ⟨e, ht⟩
  refine ⟨⟨by rw [Act.put_size]; exact h.vals.size, fun t u ht => ?_⟩, fun t cs ht => ?_, fun t t' cs cs' ht ht' e => ?_, fun t b off cs ht hb => ?_, h.den⟩
  · by_cases e : t = d
    · subst e
      rw [put_same] at ht
      simp only [Option.some.injEq] at ht
      subst ht
      rw [Act.tmps_put_same _ _ _ hd, hx]
    · rw [put_other _ _ e] at ht
      rw [Act.tmps_put_other _ _ e]; exact h.vals.at_ t u ht
  · obtain ⟨e, ht⟩ := nb t cs ht
    rw [Act.tmps_put_other _ _ e]; exact h.boxes t cs ht
  · exact h.inj t t' cs cs' (nb t cs ht).2 (nb t' cs' ht').2 e
  · obtain ⟨_, hb⟩ := nb b cs hb
    by_cases e : t = d
    · subst e
      rw [put_same] at ht
      simp only [Option.some.injEq] at ht
      subst ht
      rw [Act.tmps_put_same _ _ _ hd, hx]
    · rw [put_other _ _ e] at ht
      rw [Act.tmps_put_other _ _ e]; exact h.refs t b off cs ht hb
/-- Behind an effect that leaves alone what lies outside the heap. -/
theorem Rl.turn {n : Nat} {s : St} {H H' : Heap} {G : Nat → Nat} {a : Act} {w w' : World} (h : Rl n s H G a w) (hd : Den H' w') (hf : Fx H w H' w') : Rl n s H' G a w' :=
  ⟨h.vals, fun t cs ht => by
    obtain ⟨h1, h2, e, h3⟩ := h.boxes t cs ht
    obtain ⟨h4, h5⟩ := hf.keep (G t) (Array.getElem?_eq_some_iff.1 h3).1 h2
    exact ⟨h1, h5, e, h4.trans h3⟩, h.inj, h.refs, hd⟩
theorem Rl.le {n : Nat} {s : St} {H H' : Heap} {G : Nat → Nat} {a : Act} {w : World} (h : Rl n s H' G a w) (hl : Heap.le H H') : Rl n s H G a w :=
  ⟨h.vals, fun t cs ht => by
    obtain ⟨h1, h2, h3⟩ := h.boxes t cs ht
    refine ⟨h1, ?_, h3⟩
    cases hg : H (G t) with
    | none => rfl
    | some e => (obtain ⟨e', h4, _⟩ := hl _ _ hg; rw [h2] at h4; exact nomatch h4), h.inj, h.refs, h.den.le hl⟩
/-- A frame that is put back at one slot. -/
theorem Vals.back {n : Nat} {s s' : St} {a : Act} {d : Nat} (h : Vals n s' a) (hs : ∀ t v, t ≠ d → s t = some (.val v) → s' t = some (.val v)) (hd : d < n) : ∃ v, Vals n s (a.put (some d) v) := by
  have hd' : d < a.tmps.size := by rw [h.size]; exact hd
  have key : ∀ v, (∀ u, s d = some (.val u) → v = u) → Vals n s (a.put (some d) v) := fun v h1 =>
    ⟨by rw [Act.put_size]; exact h.size, fun t u ht => by
      by_cases e : t = d
      · subst e; rw [Act.tmps_put_same _ _ _ hd', h1 u ht]
      · rw [Act.tmps_put_other _ _ e]; exact h.at_ t u (hs t u e ht)⟩
  cases hx : s d with
  | none => exact ⟨undef, key _ (fun u hu => by rw [hx] at hu; cases hu)⟩
  | some y =>
    cases y with
    | val u => exact ⟨u, key _ (fun u' hu => by rw [hx] at hu; cases hu; rfl)⟩
    | box cs => exact ⟨undef, key _ (fun u hu => by rw [hx] at hu; cases hu)⟩
    | ref b o => exact ⟨undef, key _ (fun u hu => by rw [hx] at hu; cases hu)⟩
/-- The same with the local variables: s' knows all that s knows but for slot d, which is no variable in s. -/
theorem Rl.back {n : Nat} {s s' : St} {H : Heap} {G : Nat → Nat} {a : Act} {w : World} {d : Nat} (h : Rl n s' H G a w) (hn : ∀ cs, s d ≠ some (.box cs))
    (hs : ∀ t x, t ≠ d → s t = some x → (∀ b o, x = .ref b o → b ≠ d) → s' t = some x) (hd : d < n) : ∃ v, Rl n s H G (a.put (some d) v) w := by
  have hd' : d < a.tmps.size := by rw [h.vals.size]; exact hd
  have hbx : ∀ t cs, s t = some (.box cs) → s' t = some (.box cs) ∧ t ≠ d := fun t cs ht => by
    have e : t ≠ d := fun e => by subst e; exact hn cs ht
    exact ⟨hs t _ e ht (fun b o h => by cases h), e⟩
  have key : ∀ v, (∀ u, s d = some (.val u) → v = u) → (∀ b o, s d = some (.ref b o) → v = .pointer (some ⟨G b, o, none⟩)) → Rl n s H G (a.put (some d) v) w := by
    intro v h1 h2
    refine ⟨⟨by rw [Act.put_size]; exact h.vals.size, fun t u ht => ?_⟩, fun t cs ht => ?_, fun t t' cs cs' ht ht' e => ?_, fun t b off cs ht hb => ?_, h.den⟩
    · by_cases e : t = d
      · subst e; rw [Act.tmps_put_same _ _ _ hd', h1 u ht]
      · rw [Act.tmps_put_other _ _ e]; exact h.vals.at_ t u (hs t _ e ht (fun b o h => by cases h))
    · obtain ⟨h3, e⟩ := hbx t cs ht
      rw [Act.tmps_put_other _ _ e]; exact h.boxes t cs h3
    · exact h.inj t t' cs cs' (hbx t cs ht).1 (hbx t' cs' ht').1 e
    · obtain ⟨hb', eb⟩ := hbx b cs hb
      by_cases e : t = d
      · subst e; rw [Act.tmps_put_same _ _ _ hd', h2 b off ht]
      · rw [Act.tmps_put_other _ _ e]
        exact h.refs t b off cs (hs t _ e ht (fun b' o' h => by cases h; exact eb)) hb'
  cases hx : s d with
  | none => exact ⟨undef, key _ (fun u hu => by rw [hx] at hu; cases hu) (fun b o hu => by rw [hx] at hu; cases hu)⟩
  | some y =>
    cases y with
    | val u => exact ⟨u, key _ (fun u' hu => by rw [hx] at hu; cases hu; rfl) (fun b o hu => by rw [hx] at hu; cases hu)⟩
    | box cs => exact absurd hx (hn cs)
    | ref b o => exact ⟨_, key (.pointer (some ⟨G b, o, none⟩)) (fun u hu => by rw [hx] at hu; cases hu) (fun b' o' hu => by rw [hx] at hu; cases hu; rfl)⟩
end Go.Eng
/- The engine, part 2: one operation, abstractly; that the machine does what is said. -/
namespace Go.Eng
section
variable (P : Program) (n : Nat)
/-- The guard of an operation lets it run. -/
def Runs (all : Array Oper) (s : St) (o : Oper) : Prop :=
  o.guard = none ∨ ∃ j want d, o.guard = some (j, want) ∧ (all[j]?).bind (·.dst) = some d ∧ s d = some (.val (.bool want))
def Skips (all : Array Oper) (s : St) (o : Oper) : Prop :=
  ∃ j want d v, o.guard = some (j, want) ∧ (all[j]?).bind (·.dst) = some d ∧ s d = some (.val v) ∧ ((∃ b, v = .bool b ∧ b ≠ want) ∨ ∃ ts, v = .tuple ts)
/-- The operation yields the value v (or is not wanted, and v is undef), and the world stays: whatever the local variables hold. -/
def DetN (all : Array Oper) (o : Oper) (s : St) (H : Heap) (v : Value) : Prop := ∀ a w, Vals n s a → Den H w →
  (Region.wanted o (yielded all a.tmps) = true ∧ (execOp a.eval o).run P w = .ok (.value v) w) ∨ (Region.wanted o (yielded all a.tmps) = false ∧ v = undef)
/-- The same, for an operation that looks at local variables. -/
def DetB (all : Array Oper) (o : Oper) (s : St) (H : Heap) (x : Slot) : Prop := ∀ G a w, Rl n s H G a w →
  ∃ v, SlotOk G x v ∧ Region.wanted o (yielded all a.tmps) = true ∧ (execOp a.eval o).run P w = .ok (.value v) w
/-- A new local variable. -/
def BoxNew (all : Array Oper) (o : Oper) (s : St) (cs : List Value) : Prop := ∀ a w, Vals n s a →
  Region.wanted o (yielded all a.tmps) = true ∧ ∃ e, (execOp a.eval o).run P w = .ok (.value (.pointer (some ⟨w.heap.size, 0, none⟩))) (w.alloc (.cells cs.toArray e (0, 0)))
/-- A block is written, the others stay. -/
structure Wrote (w w' : World) (g : Nat) (cs : List Value) : Prop where
  os : w'.os = w.os
  tape : w'.tape = w.tape
  output : w'.output = w.output
  size : w'.heap.size = w.heap.size
  other : ∀ k, k ≠ g → w'.heap[k]? = w.heap[k]?
  new : ∃ e, w'.heap[g]? = some (.cells cs.toArray e (0, 0))
/-- A local variable is written. -/
def BoxStore (all : Array Oper) (o : Oper) (s : St) (b : Nat) (cs' : List Value) : Prop := ∀ H G a w, Rl n s H G a w →
  Region.wanted o (yielded all a.tmps) = true ∧ ∃ w', (execOp a.eval o).run P w = .ok .skip w' ∧ Wrote w w' (G b) cs'
/-- A new block of the heap. -/
def Fresh (all : Array Oper) (o : Oper) (s : St) (mk : Nat → Value) (xs : List Value) (e : TypeId) : Prop := ∀ a w, Vals n s a →
  Region.wanted o (yielded all a.tmps) = true ∧ (execOp a.eval o).run P w = .ok (.value (mk w.heap.size)) (w.alloc (.cells xs.toArray e (0, 0)))
/-- A block that is known whole. -/
def whole (xs : List Value) (e : TypeId) : Ent := ⟨xs, xs.length, e, true⟩
/-- What an operation comes to. -/
def yields (o : Oper) (ρ : Operand → Value) (w : World) (R : Value → World → Prop) : Prop :=
  match (execOp ρ o).run P w with
  | .ok (.value v) w' => R v w'
  | .ok .skip w' => R undef w'
  | .ok (.enter f args) w' => Calls P f args w' fun e w'' => ∃ v, e = .returned v ∧ R v w''
  | _ => False
/-- Any other effect: it comes to a value and a heap. -/
def EV (all : Array Oper) (o : Oper) (s : St) (H : Heap) (Post : Value → Heap → Prop) : Prop := ∀ a w, Vals n s a → Den H w →
  Region.wanted o (yielded all a.tmps) = true ∧ yields P o a.eval w (fun v w' => ∃ H', Post v H' ∧ Den H' w' ∧ Fx H w H' w')
inductive Mode where
  | plain | drawB | drawH | drawC
  | drawK (kc : Addr → Option Value)
  | drawT (st : List Nat)
def Mode.isP : Mode → Bool
  | .plain => true
  | _ => false
def Mode.isB : Mode → Bool
  | .drawB => true
  | .drawT _ => true
  | _ => false
/-- In the mode drawT: local variables are written amid what reads others. -/
def Mode.isT : Mode → Bool
  | .drawT _ => true
  | _ => false
def Mode.wr : Mode → Nat → Bool
  | .drawT st, b => st.contains b
  | _, _ => false
def Mode.stOk : Mode → Nat → Bool
  | .drawT st, b => st.contains b
  | _, _ => true
/-- The same but for what the written variables hold. -/
def BoxEq (md : Mode) (s s' : St) : Prop := ∀ t, s' t = s t ∨ (md.wr t = true ∧ ∃ c c', s t = some (.box c) ∧ s' t = some (.box c'))
theorem BoxEq.refl (md : Mode) (s : St) : BoxEq md s s := fun _ => .inl rfl
theorem BoxEq.val {md : Mode} {s s' : St} (h : BoxEq md s s') {t : Nat} {x : Slot} (hx : ∀ c, x ≠ .box c) (e : s t = some x) : s' t = some x := by
  rcases h t with h1 | ⟨_, c, c', h1, _⟩
  · rw [h1, e]
  · rw [e] at h1; exact absurd (Option.some.inj h1) (hx c)
theorem BoxEq.box {md : Mode} {s s' : St} (h : BoxEq md s s') {t : Nat} {c : List Value} (e : s t = some (.box c)) : ∃ c', s' t = some (.box c') := by
  rcases h t with h1 | ⟨_, _, c', _, h1⟩
  · exact ⟨c, by rw [h1, e]⟩
  · exact ⟨c', h1⟩
theorem BoxEq.keep {md : Mode} {s s' : St} (h : BoxEq md s s') {t : Nat} (e : md.wr t = false) : s' t = s t := by
  rcases h t with h1 | ⟨h1, _⟩
  · exact h1
  · rw [e] at h1; cases h1
def Mode.isC : Mode → Bool
  | .drawC => true
  | _ => false
def Mode.isK : Mode → Bool
  | .drawK _ => true
  | _ => false
/-- In the mode drawK: the cells that no effect turns. -/
def Mode.kc : Mode → Addr → Option Value
  | .drawK k => k
  | _ => fun _ => none
def Mode.cov (md : Mode) (H : Heap) : Prop := ∀ ad v, md.kc ad = some v → cell H ad = some v
def nbK (s : St) (d : Option Nat) : Bool :=
  match d with
  | some d => (match s d with | some (.box _) => false | _ => true)
  | none => true
def isStore : Op → Bool
  | .store .. => true
  | _ => false
def memOp : Op → Bool
  | .load .. | .fieldAddr .. => true
  | _ => false
def isBox : Op → Bool
  | .alloc _ | .box .. => true
  | _ => false
def isBuild : Op → Bool
  | .buildSlice .. => true
  | _ => false
def isAlloc (o : Op) : Bool := isBox o || isBuild o
/-- Some memory fits the heap. -/
def Real (H : Heap) : Prop := ∃ w, Den H w
def noSel : Op → Bool
  | .select .. => false
  | _ => true
def pureCall (c : Call) : Bool :=
  match c.callee with
  | .builtin .len | .builtin .cap | .builtin .min | .builtin .max => true
  | _ => false
/-- 0: it only computes or reads; 1: an effect; 2: a store; 3: new memory. -/
def kd : Op → Nat
  | .store .. => 2
  | .alloc _ | .box .. | .buildSlice .. => 3
  | .call c => if pureCall c then 0 else 1
  | .makeSlice .. | .go _ | .defer _ | .panic _ | .send .. | .recv .. | .select .. | .mapUpdate .. | .mapEntry .. | .entryStore .. | .insert .. | .makeMap .. | .makeChan .. | .ready _ | .next .. | .range .. => 1
  | _ => 0
def Mode.ok (md : Mode) (o : Oper) (H : Heap) (Post : Value → Heap → Prop) : Prop :=
  match md with
  | .plain => True
  | .drawB => isStore o.op = false ∧ ∀ v H', Post v H' → Heap.le H H'
  | .drawH => isStore o.op = true ∨ ∀ v H', Post v H' → Heap.le H H'
  | .drawC => True
  | .drawK _ => True
  | .drawT _ => isStore o.op = false ∧ ∀ v H', Post v H' → Heap.le H H'
/-- In a region that draws no operation writes over the slot of a local variable. -/
def Mode.nb (md : Mode) (s : St) (d : Option Nat) : Bool :=
  match md with
  | .plain => true
  | .drawK _ => false
  | _ => match d with
    | some d => (match s d with | some (.box _) => false | _ => true)
    | none => true
def Slot.good (s : St) : Slot → Bool
  | .val _ => true
  | .box _ => false
  | .ref b _ => match s b with | some (.box _) => true | _ => false
/-- It computes v from the slots and the cells that no effect turns. -/
def DetC (md : Mode) (all : Array Oper) (o : Oper) (s : St) (v : Value) : Prop := ∀ a w, Vals n s a → (∀ ad u, md.kc ad = some u → w.cell? ad = some u) →
  (Region.wanted o (yielded all a.tmps) = true ∧ (execOp a.eval o).run P w = .ok (.value v) w) ∨ (Region.wanted o (yielded all a.tmps) = false ∧ v = undef)
/-- One operation at an abstract state: K holds behind it. -/
inductive OpVC (all : Array Oper) (md : Mode) (o : Oper) (s : St) (H : Heap) (K : St → Heap → Prop) : Prop
  | detN (v : Value) (hm : isAlloc o.op = false ∨ o.guard ≠ none) (nb : md.nb s o.dst = true) (h : DetN P n all o s H v) (k : K (putO s o.dst (.val v)) H)
  | detB (x : Slot) (hm : memOp o.op = true) (nb : md.nb s o.dst = true) (hx : x.good s = true) (h : ∀ s', BoxEq md s s' → DetB P n all o s' H x) (k : K (putO s o.dst x) H)
  | boxNew (d : Nat) (hd : o.dst = some d) (hm : isBox o.op = true) (nb : md.nb s o.dst = true) (cs : List Value) (h : BoxNew P n all o s cs) (k : K (putBox s d cs) H)
  | boxStore (b : Nat) (cs cs' : List Value) (hd : o.dst = none) (hm : isStore o.op = true) (hb : s b = some (.box cs)) (hw : md.stOk b = true) (h : BoxStore P n all o s b cs') (k : K (put s b (.box cs')) H)
  | fresh (mk : Nat → Value) (xs : List Value) (e : TypeId) (hm : isBuild o.op = true ∨ (md = .plain ∧ isBox o.op = true)) (nb : md.nb s o.dst = true) (h : Fresh P n all o s mk xs e) (k : ∀ g, H g = none → Real (ins H g (whole xs e)) → K (putO s o.dst (.val (mk g))) (ins H g (whole xs e)))
  | eff (Post : Value → Heap → Prop) (ha : kd o.op = 1 ∨ kd o.op = 2 ∨ md = .plain) (nb : md.nb s o.dst = true) (h : EV P n all o s H Post) (hm : md.ok o H Post) (k : ∀ v H', Post v H' → Real H' → K (putO s o.dst (.val v)) H')
  | detC (v : Value) (hk : md.isK = true) (hm : isAlloc o.op = false) (nb : nbK s o.dst = true) (hc : md.cov H) (h : DetC P n md all o s v) (k : K (putO s o.dst (.val v)) H)
  | freshK (mk : Nat → Value) (xs : List Value) (e : TypeId) (hk : md.isK = true) (hm : isBuild o.op = true) (nb : nbK s o.dst = true) (h : Fresh P n all o s mk xs e) (k : ∀ g, H g = none → Real (ins H g (whole xs e)) → K (putO s o.dst (.val (mk g))) (ins H g (whole xs e)))
  | effK (Post : Value → Heap → Prop) (hk : md.isK = true) (ha : kd o.op = 1 ∨ kd o.op = 2) (nb : nbK s o.dst = true) (h : EV P n all o s H Post) (hm : isStore o.op = true ∨ ∀ v H', Post v H' → md.cov H') (k : ∀ v H', Post v H' → Real H' → K (putO s o.dst (.val v)) H')
end
theorem yields.mono {P : Program} {o : Oper} {ρ : Operand → Value} {w : World} {R R' : Value → World → Prop} (h : yields P o ρ w R) (hr : ∀ v w', R v w' → R' v w') : yields P o ρ w R' := by
  unfold yields at h ⊢
  split at h
  · exact hr _ _ h
  · exact hr _ _ h
  · exact h.mono fun e w' ⟨v, he, h⟩ => ⟨v, he, hr _ _ h⟩
  · exact h
theorem yields.wp {P : Program} {o : Oper} {a : Act} {w : World} {R : Value → World → Prop} {K : Act → World → Prop} {Q : Exit → Act → World → Prop} (h : yields P o a.eval w R) (hk : ∀ v w', R v w' → K (a.put o.dst v) w') : o.wp P a w K Q := by
  unfold yields at h
  unfold Oper.wp
  split at h
  · rename_i v w' e; rw [e]; exact hk _ _ h
  · rename_i w' e; rw [e]; exact hk _ _ h
  · rename_i f args w' e; rw [e]
    exact h.mono fun e w' ⟨v, he, h⟩ => by subst he; exact hk _ _ h
  · exact h.elim
section sound
variable {P : Program} {all : Array Oper} {md : Mode} {o : Oper} {s : St} {H : Heap} {K : St → Heap → Prop} {w0 : World} {H0 : Heap} {n : Nat} {a : Act} {w : World}
theorem wanted_of_runs (h : Vals n s a) (hr : Runs all s o) : Region.wanted o (yielded all a.tmps) = true := by
  rcases hr with hg | ⟨j, want, d, hg, hd, hs⟩
  · simp [Region.wanted, hg]
  · have := h.at_ d _ hs
    simp [Region.wanted, hg, yielded, hd, this]
theorem wanted_of_skips (h : Vals n s a) (hr : Skips all s o) : Region.wanted o (yielded all a.tmps) = false := by
  obtain ⟨j, want, d, v, hg, hd, hs, hne⟩ := hr
  have := h.at_ d _ hs
  rcases hne with ⟨b, rfl, hne⟩ | ⟨ts, rfl⟩
  · simp [Region.wanted, hg, yielded, hd, this, hne]
  · simp [Region.wanted, hg, yielded, hd, this]
theorem Rel.put (h : Rel w0 H0 n s H a w) {d : Option Nat} (hd : ∀ k, d = some k → k < n) {x : Slot} {v : Value} {G : Nat → Nat} (hl : Rl n s H G a w) (hb : ∀ t cs, s t = some (.box cs) → w0.heap.size ≤ G t) (hx : SlotOk G x v) :
    Rel w0 H0 n (putO s d x) H (a.put d v) w := by
  cases d with
  | none => exact ⟨h.defers, ⟨G, hl, hb⟩, h.fx⟩
  | some d =>
    refine ⟨by rw [Act.put_defers']; exact h.defers, ⟨G, hl.put (hd d rfl) hx, fun t cs ht => ?_⟩, h.fx⟩
    by_cases e : t = d
    · subst e
      rw [show putO s (some t) x = Eng.put s t x from rfl, put_same] at ht
      simp only [Option.some.injEq] at ht
      subst ht
      exact hx.elim
    · rw [show putO s (some d) x = Eng.put s d x from rfl, put_other _ _ e] at ht
      exact hb t cs ht
theorem putBox_same (s : St) (d : Nat) (cs : List Value) : putBox s d cs d = some (.box cs) := by simp [putBox]
def unref (d : Nat) : Option Slot → Option Slot
  | some (.ref b o) => cond (Nat.beq b d) none (some (.ref b o))
  | x => x
theorem putBox_other (s : St) {d t : Nat} (cs : List Value) (h : t ≠ d) : putBox s d cs t = unref d (s t) := by
  have : Nat.beq t d = false := by
    cases hb : Nat.beq t d with
    | false => rfl
    | true => exact absurd (Nat.eq_of_beq_eq_true hb) h
  unfold putBox
  rw [this]
  cases hs : s t with
  | none => rfl
  | some x => cases x <;> rfl
theorem putBox_val {s : St} {d t : Nat} {cs : List Value} {v : Value} (h : putBox s d cs t = some (.val v)) : t ≠ d ∧ s t = some (.val v) := by
  have e : t ≠ d := fun e => by subst e; rw [putBox_same] at h; cases h
  refine ⟨e, ?_⟩
  rw [putBox_other _ _ e] at h
  unfold unref at h
  split at h
  · rename_i b o' _
    cases hb : Nat.beq b d <;> rw [hb] at h <;> cases h
  · exact h
theorem putBox_ref {s : St} {d t b off : Nat} {cs : List Value} (h : putBox s d cs t = some (.ref b off)) : t ≠ d ∧ b ≠ d ∧ s t = some (.ref b off) := by
  have e : t ≠ d := fun e => by subst e; rw [putBox_same] at h; cases h
  rw [putBox_other _ _ e] at h
  unfold unref at h
  split at h
  · rename_i b' o' hs
    cases hb : Nat.beq b' d with
    | true => rw [hb] at h; cases h
    | false =>
      rw [hb] at h
      simp only [cond_false, Option.some.injEq, Slot.ref.injEq] at h
      obtain ⟨rfl, rfl⟩ := h
      exact ⟨e, (fun e => by subst e; rw [Nat.beq_refl] at hb; cases hb), hs⟩
  · rename_i hn
    exact absurd h (hn b off)
theorem putBox_box {s : St} {d t : Nat} {cs cs' : List Value} (h : putBox s d cs t = some (.box cs')) : (t = d ∧ cs' = cs) ∨ (t ≠ d ∧ s t = some (.box cs')) := by
  by_cases e : t = d
  · subst e
    rw [putBox_same] at h
    simp only [Option.some.injEq, Slot.box.injEq] at h
    exact .inl ⟨rfl, h.symm⟩
  · refine .inr ⟨e, ?_⟩
    rw [putBox_other _ _ e] at h
    unfold unref at h
    split at h
    · rename_i b o' _
      cases hb : Nat.beq b d <;> rw [hb] at h <;> cases h
    · exact h
theorem Den.alloc {H : Heap} {w : World} (h : Den H w) (o : Obj) : Den H (w.alloc o) := fun g e hg => by
  obtain ⟨o', h1, h2⟩ := h g e hg
  exact ⟨o', by rw [RowKit.Below.heap_alloc _ _ _ (h.lt hg)]; exact h1, h2⟩
theorem Rl.boxNew {G : Nat → Nat} (h : Rl n s H G a w) {d : Nat} (hn : d < n) (cs : List Value) (e : TypeId) :
    Rl n (putBox s d cs) H (fun t => if t = d then w.heap.size else G t) (a.put (some d) (.pointer (some ⟨w.heap.size, 0, none⟩))) (w.alloc (.cells cs.toArray e (0, 0))) := by
  have hd : d < a.tmps.size := by rw [h.vals.size]; exact hn
  have hlt : ∀ t cs, s t = some (.box cs) → G t < w.heap.size := fun t cs ht => by
    obtain ⟨_, _, e, h3⟩ := h.boxes t cs ht
    exact (Array.getElem?_eq_some_iff.1 h3).1
  refine ⟨⟨by rw [Act.put_size]; exact h.vals.size, fun t v ht => ?_⟩, fun t cs' ht => ?_, fun t t' cs1 cs2 ht ht' hG => ?_, fun t b off cs' ht hb => ?_, h.den.alloc _⟩
  · obtain ⟨e1, ht⟩ := putBox_val ht
    rw [Act.tmps_put_other _ _ e1]; exact h.vals.at_ t v ht
  · rcases putBox_box ht with ⟨rfl, rfl⟩ | ⟨e1, ht⟩
    · simp only [if_true]
      exact ⟨Act.tmps_put_same _ _ _ hd, h.den.fresh, e, heap_alloc_new w _⟩
    · rw [if_neg e1, Act.tmps_put_other _ _ e1]
      obtain ⟨h1, h2, e2, h3⟩ := h.boxes t cs' ht
      exact ⟨h1, h2, e2, by rw [RowKit.Below.heap_alloc _ _ _ (hlt t cs' ht)]; exact h3⟩
  · rcases putBox_box ht with ⟨h1, _⟩ | ⟨e1, h1⟩
    · rcases putBox_box ht' with ⟨h2, _⟩ | ⟨e2, h2⟩
      · rw [h1, h2]
      · rw [if_pos h1, if_neg e2] at hG
        have := hlt t' cs2 h2; omega
    · rcases putBox_box ht' with ⟨h2, _⟩ | ⟨e2, h2⟩
      · rw [if_pos h2, if_neg e1] at hG
        have := hlt t cs1 h1; omega
      · rw [if_neg e1, if_neg e2] at hG
        exact h.inj t t' cs1 cs2 h1 h2 hG
  · obtain ⟨e1, e2, ht⟩ := putBox_ref ht
    rcases putBox_box hb with ⟨rfl, rfl⟩ | ⟨_, hb⟩
    · exact absurd rfl e2
    · rw [if_neg e2, Act.tmps_put_other _ _ e1]
      exact h.refs t b off cs' ht hb
theorem Rl.boxStore {G : Nat → Nat} (h : Rl n s H G a w) {b : Nat} {cs cs' : List Value} (hb : s b = some (.box cs)) {w' : World} (hw : Wrote w w' (G b) cs') :
    Rl n (Eng.put s b (.box cs')) H G a w' := by
  have hbx : ∀ t c, Eng.put s b (.box cs') t = some (.box c) → ∃ c', s t = some (.box c') ∧ ((t = b ∧ c = cs') ∨ (t ≠ b ∧ c = c')) := by
    intro t c ht
    by_cases e : t = b
    · subst e
      rw [put_same] at ht
      simp only [Option.some.injEq, Slot.box.injEq] at ht
      exact ⟨cs, hb, .inl ⟨rfl, ht.symm⟩⟩
    · rw [put_other _ _ e] at ht
      exact ⟨c, ht, .inr ⟨e, rfl⟩⟩
  refine ⟨⟨h.vals.size, fun t v ht => ?_⟩, fun t c ht => ?_, fun t t' c1 c2 ht ht' hG => ?_, fun t b' off c ht hb' => ?_, fun g e hg => ?_⟩
  · by_cases e : t = b
    · subst e; rw [put_same] at ht; cases ht
    · rw [put_other _ _ e] at ht; exact h.vals.at_ t v ht
  · obtain ⟨c', hs, hc⟩ := hbx t c ht
    obtain ⟨h1, h2, e, h3⟩ := h.boxes t c' hs
    rcases hc with ⟨rfl, rfl⟩ | ⟨hne, rfl⟩
    · exact ⟨h1, h2, hw.new⟩
    · exact ⟨h1, h2, e, by rw [hw.other _ (fun hG => hne (h.inj t b _ _ hs hb hG))]; exact h3⟩
  · obtain ⟨c1', hs, _⟩ := hbx t c1 ht
    obtain ⟨c2', hs', _⟩ := hbx t' c2 ht'
    exact h.inj t t' c1' c2' hs hs' hG
  · obtain ⟨c', hs, _⟩ := hbx b' c hb'
    by_cases e : t = b
    · subst e; rw [put_same] at ht; cases ht
    · rw [put_other _ _ e] at ht; exact h.refs t b' off c' ht hs
  · obtain ⟨o', h1, h2⟩ := h.den g e hg
    refine ⟨o', ?_, h2⟩
    rw [hw.other _ (fun hG => ?_)]
    · exact h1
    · obtain ⟨_, h3, _⟩ := h.boxes b cs hb
      rw [← hG, hg] at h3; cases h3
/-- THE MACHINE DOES WHAT IS SAID OF ONE OPERATION. -/
theorem OpVC.sound (hR : Rel w0 H0 n s H a w) (hdst : ∀ d, o.dst = some d → d < n) (h : OpVC P n all md o s H K) :
    (Region.wanted o (yielded all a.tmps) = true ∧ o.wp P a w (fun a' w' => ∃ s' H', Rel w0 H0 n s' H' a' w' ∧ K s' H') (fun _ _ _ => False)) ∨
    (Region.wanted o (yielded all a.tmps) = false ∧ ∃ s' H', Rel w0 H0 n s' H' (a.put o.dst undef) w ∧ K s' H') := by
  obtain ⟨G, hl, hb⟩ := hR.fits
  cases h with
  | detN v hm nb h k =>
    rcases h a w hl.vals hl.den with ⟨h1, h2⟩ | ⟨h1, h2⟩
    · refine .inl ⟨h1, ?_⟩
      unfold Oper.wp
      rw [h2]
      exact ⟨_, _, hR.put (x := .val v) hdst hl hb rfl, k⟩
    · subst h2
      exact .inr ⟨h1, _, _, hR.put (x := .val undef) hdst hl hb rfl, k⟩
  | detB x hm nb hx h k =>
    obtain ⟨v, hxv, h1, h2⟩ := h s (.refl _ _) G a w hl
    refine .inl ⟨h1, ?_⟩
    unfold Oper.wp
    rw [h2]
    exact ⟨_, _, hR.put hdst hl hb hxv, k⟩
  | boxNew d hd hm nb cs h k =>
    obtain ⟨h1, e, h2⟩ := h a w hl.vals
    refine .inl ⟨h1, ?_⟩
    unfold Oper.wp
    rw [h2]
    show ∃ s' H', Rel w0 H0 n s' H' (a.put o.dst _) _ ∧ K s' H'
    rw [hd]
    refine ⟨_, _, ⟨by rw [Act.put_defers']; exact hR.defers, ⟨_, hl.boxNew (hdst d hd) cs e, fun t cs' ht => ?_⟩, ?_⟩, k⟩
    · rcases putBox_box ht with ⟨rfl, rfl⟩ | ⟨e1, ht⟩
      · simp only [if_true]; exact hR.fx.size
      · rw [if_neg e1]; exact hb t cs' ht
    · exact hR.fx.trans ⟨rfl, rfl, rfl, by simp, fun g hg h0 => ⟨RowKit.Below.heap_alloc _ _ _ hg, h0⟩, Fx.form_of fun g hg => RowKit.Below.heap_alloc _ _ _ hg⟩
  | boxStore b cs cs' hd hm hbs hsw h k =>
    obtain ⟨h1, w', h2, hw⟩ := h H G a w hl
    refine .inl ⟨h1, ?_⟩
    unfold Oper.wp
    rw [h2]
    show ∃ s' H', Rel w0 H0 n s' H' (a.put o.dst undef) w' ∧ K s' H'
    rw [hd]
    refine ⟨_, _, ⟨hR.defers, ⟨G, hl.boxStore hbs hw, fun t c ht => ?_⟩, ?_⟩, k⟩
    · by_cases e : t = b
      · subst e; exact hb t cs hbs
      · rw [put_other _ _ e] at ht; exact hb t c ht
    · refine ⟨hw.os.trans hR.fx.os, hw.tape.trans hR.fx.tape, hw.output.trans hR.fx.output, by rw [hw.size]; exact hR.fx.size, fun g hg h0 => ?_, fun g c t fz hc => ?_⟩
      · have h3 := hR.fx.keep g hg h0
        refine ⟨?_, h3.2⟩
        rw [hw.other _ (fun e => ?_)]
        · exact h3.1
        · have := hb b cs hbs; omega
      · obtain ⟨c', h3, h4⟩ := hR.fx.form g c t fz hc
        have hlt := (Array.getElem?_eq_some_iff.1 hc).1
        have := hb b cs hbs
        exact ⟨c', by rw [hw.other _ (by omega)]; exact h3, h4⟩
  | fresh mk xs e hm nb h k =>
    obtain ⟨h1, h2⟩ := h a w hl.vals
    refine .inl ⟨h1, ?_⟩
    unfold Oper.wp
    rw [h2]
    have hfr := hl.den.fresh
    have hd : Den (ins H w.heap.size (whole xs e)) (w.alloc (.cells xs.toArray e (0, 0))) := by
      intro g e' hg
      by_cases eg : g = w.heap.size
      · subst eg
        rw [ins_same] at hg
        simp only [Option.some.injEq] at hg
        subst hg
        exact ⟨_, heap_alloc_new w _, xs.toArray, (0, 0), rfl, by simp [whole], fun i v hv => by simpa [whole] using hv, fun _ => rfl⟩
      · rw [ins_other _ _ eg] at hg
        exact hl.den.alloc _ g e' hg
    have hf : Fx H w (ins H w.heap.size (whole xs e)) (w.alloc (.cells xs.toArray e (0, 0))) :=
      ⟨rfl, rfl, rfl, by simp, fun g hg h0 => ⟨RowKit.Below.heap_alloc _ _ _ hg, by rw [ins_other _ _ (by omega)]; exact h0⟩, Fx.form_of fun g hg => RowKit.Below.heap_alloc _ _ _ hg⟩
    have hl' := hl.turn hd hf
    have hR' : Rel w0 H0 n s (ins H w.heap.size (whole xs e)) a (w.alloc (.cells xs.toArray e (0, 0))) := ⟨hR.defers, ⟨G, hl', hb⟩, hR.fx.trans hf⟩
    exact ⟨_, _, hR'.put (x := .val _) hdst hl' hb rfl, k _ hfr ⟨_, hd⟩⟩
  | eff Post ha nb h hm k =>
    obtain ⟨h1, h2⟩ := h a w hl.vals hl.den
    refine .inl ⟨h1, h2.wp fun v w' hh => ?_⟩
    obtain ⟨H', hp, hd, hf⟩ := hh
    have hl' := hl.turn hd hf
    have hR' : Rel w0 H0 n s H' a w' := ⟨hR.defers, ⟨G, hl', hb⟩, hR.fx.trans hf⟩
    exact ⟨_, _, hR'.put (x := .val v) hdst hl' hb rfl, k v H' hp ⟨w', hd⟩⟩
  | detC v hkk hm nb hc h k =>
    rcases h a w hl.vals (fun ad u hu => hl.den.cell (hc ad u hu)) with ⟨h1, h2⟩ | ⟨h1, h2⟩
    · refine .inl ⟨h1, ?_⟩
      unfold Oper.wp
      rw [h2]
      exact ⟨_, _, hR.put (x := .val v) hdst hl hb rfl, k⟩
    · subst h2
      exact .inr ⟨h1, _, _, hR.put (x := .val undef) hdst hl hb rfl, k⟩
  | freshK mk xs e hkk hm nb h k =>
    obtain ⟨h1, h2⟩ := h a w hl.vals
    refine .inl ⟨h1, ?_⟩
    unfold Oper.wp
    rw [h2]
    have hfr := hl.den.fresh
    have hd : Den (ins H w.heap.size (whole xs e)) (w.alloc (.cells xs.toArray e (0, 0))) := by
      intro g e' hg
      by_cases eg : g = w.heap.size
      · subst eg
        rw [ins_same] at hg
        simp only [Option.some.injEq] at hg
        subst hg
        exact ⟨_, heap_alloc_new w _, xs.toArray, (0, 0), rfl, by simp [whole], fun i v hv => by simpa [whole] using hv, fun _ => rfl⟩
      · rw [ins_other _ _ eg] at hg
        exact hl.den.alloc _ g e' hg
    have hf : Fx H w (ins H w.heap.size (whole xs e)) (w.alloc (.cells xs.toArray e (0, 0))) :=
      ⟨rfl, rfl, rfl, by simp, fun g hg h0 => ⟨RowKit.Below.heap_alloc _ _ _ hg, by rw [ins_other _ _ (by omega)]; exact h0⟩, Fx.form_of fun g hg => RowKit.Below.heap_alloc _ _ _ hg⟩
    have hl' := hl.turn hd hf
    have hR' : Rel w0 H0 n s (ins H w.heap.size (whole xs e)) a (w.alloc (.cells xs.toArray e (0, 0))) := ⟨hR.defers, ⟨G, hl', hb⟩, hR.fx.trans hf⟩
    exact ⟨_, _, hR'.put (x := .val _) hdst hl' hb rfl, k _ hfr ⟨_, hd⟩⟩
  | effK Post hkk ha nb h hm k =>
    obtain ⟨h1, h2⟩ := h a w hl.vals hl.den
    refine .inl ⟨h1, h2.wp fun v w' hh => ?_⟩
    obtain ⟨H', hp, hd, hf⟩ := hh
    have hl' := hl.turn hd hf
    have hR' : Rel w0 H0 n s H' a w' := ⟨hR.defers, ⟨G, hl', hb⟩, hR.fx.trans hf⟩
    exact ⟨_, _, hR'.put (x := .val v) hdst hl' hb rfl, k v H' hp ⟨w', hd⟩⟩
end sound
end Go.Eng
/- The engine, part 3: two operations of a region that may come in either order. -/
namespace Go.Eng
theorem kd_alloc {o : Op} : isAlloc o = true ↔ kd o = 3 := by
  cases o <;> simp [isAlloc, isBox, isBuild, kd]
  split <;> simp
theorem alloc_parts {o : Op} (h : kd o = 3) : (isBox o = true ∧ isBuild o = false) ∨ (isBox o = false ∧ isBuild o = true) := by
  cases o <;> simp [isBox, isBuild, kd] at h ⊢
  split at h <;> simp at h
theorem kd_store {o : Op} : isStore o = true ↔ kd o = 2 := by
  cases o <;> simp [isStore, kd]
  split <;> simp
theorem kd_mem {o : Op} (h : memOp o = true) : kd o = 0 := by
  cases o <;> simp [memOp] at h <;> rfl
/-- y may come before x, though x stands before y. -/
def Sw (md : Mode) (all : Array Oper) (x y : Oper) : Bool :=
  x.apart all y && noSel x.op && noSel y.op &&
  ((kd x.op == 0 && (kd y.op == 0 || (kd y.op == 1 && !md.isC) || (kd y.op == 3 && (y.guard.isNone || !md.isK)) || (kd y.op == 2 && md.isB && (md.isT || !memOp x.op)))) ||
   ((kd x.op == 1 || kd x.op == 3) && kd y.op == 3 && y.guard.isNone && !md.isK))
section
variable {P : Program} {n : Nat} {all : Array Oper} {o : Oper}
/-- The operation does the same at both frames. -/
structure Like (all : Array Oper) (o : Oper) (a b : Act) : Prop where
  want : Region.wanted o (yielded all a.tmps) = Region.wanted o (yielded all b.tmps)
  exec : execOp a.eval o = execOp b.eval o
theorem Like.put {a : Act} {d : Nat} (v : Value) (hs : noSel o.op = true) (h : d ∉ o.looksAt all) : Like all o (a.put (some d) v) a := by
  refine ⟨wanted_put o a (some d) v (fun e he => by cases he; exact h), execOp_congr o (fun cs b e => by rw [e] at hs; cases hs) (fun x hx => ?_)⟩
  refine Act.eval_put fun e he hxe => ?_
  cases he
  subst hxe
  exact h (by
    unfold Oper.looksAt
    refine List.mem_append_left _ ?_
    rw [List.mem_filterMap]
    exact ⟨_, by simpa using hx, rfl⟩)
theorem Like.refl (a : Act) : Like all o a a := ⟨rfl, rfl⟩
def Mv (n : Nat) (all : Array Oper) (o : Oper) (s1 s2 : St) : Prop := ∀ a, Vals n s2 a → ∃ a1, Vals n s1 a1 ∧ Like all o a1 a
def MvB (n : Nat) (all : Array Oper) (o : Oper) (s1 s2 : St) : Prop := ∀ H G a w, Rl n s2 H G a w → ∃ a1, Rl n s1 H G a1 w ∧ Like all o a1 a
variable {s1 s2 s : St} {H H1 H2 : Heap}
theorem DetN.move {v : Value} (hm : Mv n all o s1 s2) (hl : Heap.le H1 H2) (h : DetN P n all o s1 H1 v) : DetN P n all o s2 H2 v := fun a w ha hd => by
  obtain ⟨a1, h1, h2⟩ := hm a ha
  rw [← h2.want, ← h2.exec]
  exact h a1 w h1 (hd.le hl)
theorem DetB.move {x : Slot} (hm : MvB n all o s1 s2) (hl : Heap.le H1 H2) (h : DetB P n all o s1 H1 x) : DetB P n all o s2 H2 x := fun G a w ha => by
  obtain ⟨a1, h1, h2⟩ := hm H2 G a w ha
  obtain ⟨v, h3, h4, h5⟩ := h G a1 w (h1.le hl)
  exact ⟨v, h3, by rw [← h2.want]; exact h4, by rw [← h2.exec]; exact h5⟩
theorem DetC.move {md : Mode} {v : Value} (hm : Mv n all o s1 s2) (h : DetC P n md all o s1 v) : DetC P n md all o s2 v := fun a w ha hd => by
  obtain ⟨a1, h1, h2⟩ := hm a ha
  have := h a1 w h1 hd
  rw [h2.want, h2.exec] at this
  exact this
theorem BoxNew.move {cs : List Value} (hm : Mv n all o s1 s2) (h : BoxNew P n all o s1 cs) : BoxNew P n all o s2 cs := fun a w ha => by
  obtain ⟨a1, h1, h2⟩ := hm a ha
  rw [← h2.want, ← h2.exec]
  exact h a1 w h1
theorem BoxStore.move {b : Nat} {cs : List Value} (hm : MvB n all o s1 s2) (h : BoxStore P n all o s1 b cs) : BoxStore P n all o s2 b cs := fun H G a w ha => by
  obtain ⟨a1, h1, h2⟩ := hm H G a w ha
  rw [← h2.want, ← h2.exec]
  exact h H G a1 w h1
theorem Fresh.move {mk : Nat → Value} {xs : List Value} {e : TypeId} (hm : Mv n all o s1 s2) (h : Fresh P n all o s1 mk xs e) : Fresh P n all o s2 mk xs e := fun a w ha => by
  obtain ⟨a1, h1, h2⟩ := hm a ha
  rw [← h2.want, ← h2.exec]
  exact h a1 w h1
theorem EV.move {Post : Value → Heap → Prop} (hm : Mv n all o s1 s2) (h : EV P n all o s1 H Post) : EV P n all o s2 H Post := fun a w ha hd => by
  obtain ⟨a1, h1, h2⟩ := hm a ha
  have := h a1 w h1 hd
  unfold yields at this ⊢
  rw [← h2.want, ← h2.exec]
  exact this
theorem BoxNew.uniq {cs cs' : List Value} (ha : ∃ a, Vals n s a) (h : BoxNew P n all o s cs) (h' : BoxNew P n all o s cs') : cs' = cs := by
  obtain ⟨a, ha⟩ := ha
  obtain ⟨_, e, h1⟩ := h a default ha
  obtain ⟨_, e', h2⟩ := h' a default ha
  rw [h1] at h2
  simp only [Result.ok.injEq, true_and] at h2
  have := congrArg (fun w : World => w.heap[(default : World).heap.size]?) h2
  simp only [heap_alloc_new, Option.some.injEq, Obj.cells.injEq] at this
  exact (List.toArray_inj this.1).symm
theorem Fresh.uniq {mk mk' : Nat → Value} {xs xs' : List Value} {e e' : TypeId} (ha : ∃ a, Vals n s a) (h : Fresh P n all o s mk xs e) (h' : Fresh P n all o s mk' xs' e') : mk' = mk ∧ xs' = xs ∧ e' = e := by
  obtain ⟨a, ha⟩ := ha
  have key : ∀ w : World, mk' w.heap.size = mk w.heap.size ∧ xs' = xs ∧ e' = e := fun w => by
    obtain ⟨_, h1⟩ := h a w ha
    obtain ⟨_, h2⟩ := h' a w ha
    rw [h1] at h2
    simp only [Result.ok.injEq, Next.value.injEq] at h2
    have := congrArg (fun w' : World => w'.heap[w.heap.size]?) h2.2
    simp only [heap_alloc_new, Option.some.injEq, Obj.cells.injEq] at this
    exact ⟨h2.1.symm, (List.toArray_inj this.1).symm, this.2.1.symm⟩
  refine ⟨funext fun g => ?_, (key default).2⟩
  have := (key { (default : World) with heap := Array.replicate g default }).1
  simpa using this
/-- An effect comes to something. -/
theorem EV.some {Post : Value → Heap → Prop} (h : EV P n all o s H Post) (ha : ∃ a, Vals n s a) (hw : Real H) : ∃ v H', Post v H' ∧ Real H' := by
  obtain ⟨a, ha⟩ := ha
  obtain ⟨w, hw⟩ := hw
  obtain ⟨_, h2⟩ := h a w ha hw
  unfold yields at h2
  split at h2
  · obtain ⟨H', hp, hd, _⟩ := h2; exact ⟨_, H', hp, _, hd⟩
  · obtain ⟨H', hp, hd, _⟩ := h2; exact ⟨_, H', hp, _, hd⟩
  · obtain ⟨e, w', fr, ⟨v, _, H', hp, hd, _⟩, _⟩ := h2 []
    exact ⟨v, H', hp, w', hd⟩
  · exact h2.elim
/-- The frame rule: a block beside the heap stays. -/
theorem EV.frame {Post : Value → Heap → Prop} {g : Nat} {ent : Ent} (hg : H g = none) (h : EV P n all o s H Post) :
    EV P n all o s (ins H g ent) (fun v H'' => ∃ H', Post v H' ∧ H' g = none ∧ H'' = ins H' g ent) := fun a w ha hd => by
  obtain ⟨h1, h2⟩ := h a w ha (hd.le (Heap.le_ins ent hg))
  refine ⟨h1, h2.mono fun v w' hh => ?_⟩
  obtain ⟨H', hp, hd', hf⟩ := hh
  obtain ⟨ob, ho, hoe⟩ := hd g ent (ins_same _ _ _)
  have hlt := hd.lt (ins_same H g ent)
  obtain ⟨hk1, hk2⟩ := hf.keep g hlt hg
  refine ⟨ins H' g ent, ⟨H', hp, hk2, rfl⟩, fun k e hk => ?_, ⟨hf.os, hf.tape, hf.output, hf.size, fun k hk h0 => ?_, hf.form⟩⟩
  · by_cases ek : k = g
    · subst ek
      rw [ins_same] at hk
      simp only [Option.some.injEq] at hk
      subst hk
      exact ⟨ob, hk1.trans ho, hoe⟩
    · rw [ins_other _ _ ek] at hk; exact hd' k e hk
  · have ek : k ≠ g := fun e => by subst e; rw [ins_same] at h0; cases h0
    rw [ins_other _ _ ek] at h0 ⊢
    exact hf.keep k hk h0
/-! how a frame is put right -/
theorem mv_before_det {d : Option Nat} {X : Slot} (hs : noSel o.op = true) (hd : ∀ k, d = some k → k < n ∧ k ∉ o.looksAt all) : Mv n all o (putO s d X) s := fun a ha => by
  cases d with
  | none => exact ⟨a, ha, .refl a⟩
  | some d =>
    obtain ⟨hn, hl⟩ := hd d rfl
    have key : ∀ u, (∀ v, X = .val v → u = v) → ∃ a1, Vals n (putO s (some d) X) a1 ∧ Like all o a1 a := fun u hu => by
      refine ⟨a.put (some d) u, ⟨by rw [Act.put_size]; exact ha.size, fun t v ht => ?_⟩, .put u hs hl⟩
      by_cases e : t = d
      · subst e
        rw [show putO s (some t) X = put s t X from rfl, put_same] at ht
        simp only [Option.some.injEq] at ht
        rw [Act.tmps_put_same _ _ _ (by rw [ha.size]; exact hn), hu v ht]
      · rw [show putO s (some d) X = put s d X from rfl, put_other _ _ e] at ht
        rw [Act.tmps_put_other _ _ e]; exact ha.at_ t v ht
    cases X with
    | val v => exact key v (fun v' h => by cases h; rfl)
    | box cs => exact key undef (fun v' h => by cases h)
    | ref b off => exact key undef (fun v' h => by cases h)
theorem mvB_before_det {d : Option Nat} {X : Slot} (hx : ∀ cs, X ≠ .box cs) (hs : noSel o.op = true) (hd : ∀ k, d = some k → k < n ∧ k ∉ o.looksAt all) : MvB n all o (putO s d X) s := fun H G a w ha => by
  cases d with
  | none => exact ⟨a, ha, .refl a⟩
  | some d =>
    obtain ⟨hn, hl⟩ := hd d rfl
    cases X with
    | val v => exact ⟨_, ha.put hn (x := .val v) rfl, .put _ hs hl⟩
    | box cs => exact absurd rfl (hx cs)
    | ref b off => exact ⟨_, ha.put hn (x := .ref b off) rfl, .put _ hs hl⟩
theorem mv_behind {d : Option Nat} {X : Slot} (hs : noSel o.op = true) (hd : ∀ k, d = some k → k < n ∧ k ∉ o.looksAt all) : Mv n all o s (putO s d X) := fun a ha => by
  cases d with
  | none => exact ⟨a, ha, .refl a⟩
  | some d =>
    obtain ⟨hn, hl⟩ := hd d rfl
    obtain ⟨v, hv⟩ := Vals.back (s := s) (d := d) ha (fun t v ht h => by rw [show putO s (some d) X = put s d X from rfl, put_other _ _ ht]; exact h) hn
    exact ⟨_, hv, .put v hs hl⟩
theorem mvB_behind {d : Option Nat} {X : Slot} (hs : noSel o.op = true) (hd : ∀ k, d = some k → k < n ∧ k ∉ o.looksAt all) (hb : ∀ k cs, d = some k → s k ≠ some (.box cs)) : MvB n all o s (putO s d X) := fun H G a w ha => by
  cases d with
  | none => exact ⟨a, ha, .refl a⟩
  | some d =>
    obtain ⟨hn, hl⟩ := hd d rfl
    obtain ⟨v, hv⟩ := Rl.back (s := s) (d := d) ha (fun cs => hb d cs rfl) (fun t x ht h _ => by rw [show putO s (some d) X = put s d X from rfl, put_other _ _ ht]; exact h) hn
    exact ⟨_, hv, .put v hs hl⟩
theorem putBox_keep {d t : Nat} {cs : List Value} {x : Slot} (ht : t ≠ d) (h : s t = some x) (hx : ∀ b o, x = .ref b o → b ≠ d) : putBox s d cs t = some x := by
  rw [putBox_other _ _ ht, h]
  cases x with
  | val v => rfl
  | box c => rfl
  | ref b off =>
    have := hx b off rfl
    have hb : Nat.beq b d = false := by
      cases hb : Nat.beq b d with
      | false => rfl
      | true => exact absurd (Nat.eq_of_beq_eq_true hb) this
    simp [unref, hb]
theorem mv_behind_box {d : Nat} {cs : List Value} (hs : noSel o.op = true) (hn : d < n) (hl : d ∉ o.looksAt all) : Mv n all o s (putBox s d cs) := fun a ha => by
  obtain ⟨v, hv⟩ := Vals.back (s := s) (d := d) ha (fun t v ht h => putBox_keep ht h (fun b o e => by cases e)) hn
  exact ⟨_, hv, .put v hs hl⟩
theorem mvB_behind_box {d : Nat} {cs : List Value} (hs : noSel o.op = true) (hn : d < n) (hl : d ∉ o.looksAt all) (hb : ∀ cs, s d ≠ some (.box cs)) : MvB n all o s (putBox s d cs) := fun H G a w ha => by
  obtain ⟨v, hv⟩ := Rl.back (s := s) (d := d) ha hb (fun t x ht h hx => putBox_keep ht h hx) hn
  exact ⟨_, hv, .put v hs hl⟩
theorem mv_before_box {d : Nat} {cs : List Value} : Mv n all o (putBox s d cs) s := fun a ha =>
  ⟨a, ⟨ha.size, fun t v ht => ha.at_ t v (putBox_val ht).2⟩, .refl a⟩
theorem mv_behind_store {b : Nat} {cs cs' : List Value} (hb : s b = some (.box cs)) : Mv n all o s (put s b (.box cs')) := fun a ha =>
  ⟨a, ⟨ha.size, fun t v ht => ha.at_ t v (by
    have e : t ≠ b := fun e => by subst e; rw [hb] at ht; cases ht
    rw [put_other _ _ e]; exact ht)⟩, .refl a⟩
/-! the states are the same -/
theorem putO_comm {d e : Option Nat} (X Y : Slot) (h : ∀ k, d = some k → e ≠ some k) : putO (putO s d X) e Y = putO (putO s e Y) d X := by
  cases d with
  | none => rfl
  | some d =>
    cases e with
    | none => rfl
    | some e => exact put_comm s X Y (fun h' => h d rfl (by rw [h']))
theorem putO_putBox {d : Option Nat} {e : Nat} {X : Slot} {cs : List Value} (h : d ≠ some e) (hx : ∀ b o, X = .ref b o → b ≠ e) : putBox (putO s d X) e cs = putO (putBox s e cs) d X := by
  cases d with
  | none => rfl
  | some d =>
    have hne : d ≠ e := fun h' => h (by rw [h'])
    funext t
    show putBox (put s d X) e cs t = put (putBox s e cs) d X t
    by_cases h1 : t = e
    · subst h1
      rw [putBox_same, put_other _ _ (Ne.symm hne), putBox_same]
    · rw [putBox_other _ _ h1]
      by_cases h2 : t = d
      · subst h2
        rw [put_same, put_same]
        have := putBox_keep (s := put s t X) (cs := cs) h1 (put_same s t X) hx
        rw [putBox_other _ _ h1, put_same] at this
        exact this
      · rw [put_other _ _ h2, put_other _ _ h2, putBox_other _ _ h1]
theorem unref_comm (d e : Nat) (x : Option Slot) : unref d (unref e x) = unref e (unref d x) := by
  cases x with
  | none => rfl
  | some x =>
    cases x with
    | val v => rfl
    | box c => rfl
    | ref b o => cases h1 : Nat.beq b d <;> cases h2 : Nat.beq b e <;> simp [unref, h1, h2]
theorem putBox_putBox {d e : Nat} {cs cs' : List Value} (h : d ≠ e) : putBox (putBox s d cs) e cs' = putBox (putBox s e cs') d cs := by
  funext t
  by_cases h1 : t = e
  · subst h1
    rw [putBox_same, putBox_other _ _ (Ne.symm h), putBox_same]; rfl
  · rw [putBox_other _ _ h1]
    by_cases h2 : t = d
    · subst h2
      rw [putBox_same, putBox_same]; rfl
    · rw [putBox_other _ _ h2, putBox_other _ _ h2, putBox_other _ _ h1, unref_comm]
theorem putO_store {d : Option Nat} {b : Nat} {X : Slot} {cs : List Value} (h : d ≠ some b) : put (putO s d X) b (.box cs) = putO (put s b (.box cs)) d X := by
  cases d with
  | none => rfl
  | some d => exact put_comm s X (.box cs) (fun h' => h (by rw [h']))
theorem ins_comm (H : Heap) {g k : Nat} (e e' : Ent) (h : g ≠ k) : ins (ins H g e) k e' = ins (ins H k e') g e := by
  funext t
  by_cases h1 : t = k
  · subst h1; rw [ins_same, ins_other _ _ (Ne.symm h), ins_same]
  · by_cases h2 : t = g
    · subst h2; rw [ins_other _ _ h1, ins_same, ins_same]
    · rw [ins_other _ _ h1, ins_other _ _ h2, ins_other _ _ h2, ins_other _ _ h1]
end
/-! ## states that differ in what the written variables hold -/
theorem putO_some (s : St) (d : Nat) (X : Slot) : putO s (some d) X = put s d X := rfl
theorem BoxEq.putO {md : Mode} {s s' : St} (h : BoxEq md s s') (d : Option Nat) (X : Slot) : BoxEq md (putO s d X) (putO s' d X) := fun t => by
  cases d with
  | none => exact h t
  | some d =>
    rw [putO_some, putO_some]
    by_cases e : t = d
    · subst e; exact .inl (by rw [put_same, put_same])
    · rw [put_other _ _ e, put_other _ _ e]; exact h t
theorem BoxEq.unput {md : Mode} {s s' : St} {d : Option Nat} {X : Slot} (hX : ∀ c, X ≠ .box c) (h : BoxEq md (Eng.putO s d X) s') : ∃ s'', BoxEq md s s'' ∧ s' = Eng.putO s'' d X ∧ ∀ k, d = some k → s'' k = s k := by
  cases d with
  | none => exact ⟨s', h, rfl, fun k e => by cases e⟩
  | some d =>
    rw [putO_some] at h
    have hd : s' d = some X := h.val hX (put_same _ _ _)
    refine ⟨fun t => if t = d then s t else s' t, fun t => ?_, ?_, fun k e => by cases e; simp⟩
    · by_cases e : t = d
      · left; simp [e]
      · have := h t
        rw [put_other _ _ e] at this
        simpa [e] using this
    · rw [putO_some]
      funext t
      by_cases e : t = d
      · subst e; rw [put_same, hd]
      · rw [put_other _ _ e, if_neg e]
open Classical in
theorem BoxEq.unbox {md : Mode} {s s' : St} {d : Nat} {cs : List Value} (h : BoxEq md (putBox s d cs) s') : ∃ s'' c'', BoxEq md s s'' ∧ s' = putBox s'' d c'' ∧ s'' d = s d := by
  obtain ⟨c'', hc⟩ := h.box (putBox_same s d cs)
  refine ⟨fun t => if t = d ∨ s' t = putBox s d cs t then s t else s' t, c'', fun t => ?_, ?_, by simp⟩
  · by_cases e : t = d ∨ s' t = putBox s d cs t
    · left; simp only [e, if_true]
    · simp only [e, if_false]
      rcases h t with h1 | ⟨h0, c, c', h1, h2⟩
      · exact absurd (.inr h1) e
      · rcases putBox_box h1 with ⟨e1, _⟩ | ⟨_, h3⟩
        · exact absurd (.inl e1) e
        · exact .inr ⟨h0, c, c', h3, h2⟩
  · funext t
    by_cases e : t = d
    · subst e; rw [hc, putBox_same]
    · rw [putBox_other _ _ e]
      by_cases e2 : s' t = putBox s d cs t
      · simp only [e2, or_true, if_true]; exact putBox_other _ _ e
      · rcases h t with h1 | ⟨h0, c, c', h1, h2⟩
        · exact absurd h1 e2
        · rw [if_neg (by rintro (h3 | h3); exact e h3; exact e2 h3), h2]; rfl
theorem BoxEq.store {md : Mode} {s s' : St} {b : Nat} {cs cs' : List Value} (hb : s b = some (.box cs)) (hw : md.wr b = true) (h : BoxEq md (put s b (.box cs')) s') : BoxEq md s s' := fun t => by
  by_cases e : t = b
  · subst e
    obtain ⟨c, hc⟩ := h.box (put_same s t (.box cs'))
    exact .inr ⟨hw, cs, c, hb, hc⟩
  · have := h t
    rwa [put_other _ _ e] at this
end Go.Eng
/- The engine, part 4: the swap of two operations; lists of operations; regions. -/
namespace Go.Eng
section
variable {P : Program} {n : Nat} {all : Array Oper} {md : Mode} {x y : Oper} {s : St} {H : Heap} {K : St → Heap → Prop}
theorem eff_two {md : Mode} (hmd : md ≠ .plain) {k : Nat} (h : k = 1 ∨ k = 2 ∨ md = .plain) : k = 1 ∨ k = 2 := by
  rcases h with h | h | h
  · exact .inl h
  · exact .inr h
  · exact absurd h hmd
theorem nb_iff (hmd : md ≠ .plain) (hisK : md.isK = false) (d : Option Nat) : md.nb s d = true ↔ ∀ k cs, d = some k → s k ≠ some (.box cs) := by
  cases d with
  | none => cases md <;> simp [Mode.nb, Mode.isK] at *
  | some d =>
    have : md.nb s (some d) = (match s d with | some (.box _) => false | _ => true) := by cases md <;> first | exact absurd rfl hmd | rfl | cases hisK
    rw [this]
    cases hs : s d with
    | none => exact ⟨(fun _ k cs hk h => by cases hk; rw [hs] at h; cases h), fun _ => rfl⟩
    | some z =>
      cases z with
      | val v => exact ⟨(fun _ k cs hk h => by cases hk; rw [hs] at h; cases h), fun _ => rfl⟩
      | box c => exact ⟨(fun h => by cases h), fun h => absurd hs (h d c rfl)⟩
      | ref b o => exact ⟨(fun _ k cs hk h => by cases hk; rw [hs] at h; cases h), fun _ => rfl⟩
theorem good_iff {X : Slot} : X.good s = true ↔ (∀ cs, X ≠ .box cs) ∧ ∀ b o, X = .ref b o → ∃ cs, s b = some (.box cs) := by
  cases X with
  | val v => simp [Slot.good]
  | box c => simp [Slot.good]
  | ref b o =>
    simp only [Slot.good]
    cases hs : s b with
    | none => simp [hs]
    | some z => cases z <;> simp [hs]
theorem putO_at {d : Option Nat} {X : Slot} {t : Nat} (h : d ≠ some t) : putO s d X t = s t := by
  cases d with
  | none => rfl
  | some d => exact put_other s X (fun e => h (by rw [e]))
theorem putO_box {d : Option Nat} {X : Slot} {t : Nat} {cs : List Value} (hx : ∀ cs, X ≠ .box cs) (h : putO s d X t = some (.box cs)) : d ≠ some t ∧ s t = some (.box cs) := by
  cases d with
  | none => exact ⟨by simp, h⟩
  | some d =>
    by_cases e : t = d
    · subst e
      rw [show putO s (some t) X = put s t X from rfl, put_same] at h
      simp only [Option.some.injEq] at h
      exact absurd h (hx cs)
    · rw [show putO s (some d) X = put s d X from rfl, put_other _ _ e] at h
      exact ⟨fun h' => e (by cases h'; rfl), h⟩
/-- What 'Sw' tells. -/
structure Swp (md : Mode) (all : Array Oper) (x y : Oper) : Prop where
  xs : noSel x.op = true
  ys : noSel y.op = true
  xy : ∀ d, x.dst = some d → d ∉ y.looksAt all
  ne : ∀ d, x.dst = some d → y.dst ≠ some d
  yx : ∀ d, y.dst = some d → d ∉ x.looksAt all
  kind : (kd x.op = 0 ∧ (kd y.op = 0 ∨ (kd y.op = 1 ∧ md.isC = false) ∨ (kd y.op = 3 ∧ (y.guard = none ∨ md.isK = false)) ∨ (kd y.op = 2 ∧ md.isB = true ∧ (md.isT = true ∨ memOp x.op = false)))) ∨ ((kd x.op = 1 ∨ kd x.op = 3) ∧ kd y.op = 3 ∧ y.guard = none ∧ md.isK = false)
theorem Sw.out (h : Sw md all x y = true) : Swp md all x y := by
  simp only [Sw, Bool.and_eq_true, Bool.or_eq_true, beq_iff_eq, Option.isNone_iff_eq_none, Bool.not_eq_true'] at h
  obtain ⟨⟨⟨h1, h2⟩, h3⟩, h4⟩ := h
  obtain ⟨a1, a2, a3⟩ := Oper.apart_spec h1
  refine ⟨h2, h3, a1, a2, a3, ?_⟩
  rcases h4 with ⟨hx, hy⟩ | ⟨⟨⟨hx, hy⟩, hz⟩, hk⟩
  · left
    refine ⟨hx, ?_⟩
    rcases hy with ((hy | hy) | hy) | hy
    · exact .inl hy
    · exact .inr (.inl hy)
    · exact .inr (.inr (.inl hy))
    · exact .inr (.inr (.inr ⟨hy.1.1, hy.1.2, hy.2⟩))
  · exact .inr ⟨hx, hy, hz, hk⟩
theorem Den.allocIns {H : Heap} {w : World} (h : Den H w) (xs : List Value) (e : TypeId) : Den (ins H w.heap.size (whole xs e)) (w.alloc (.cells xs.toArray e (0, 0))) := by
  intro g e' hg
  by_cases eg : g = w.heap.size
  · subst eg
    rw [ins_same] at hg
    simp only [Option.some.injEq] at hg
    subst hg
    exact ⟨_, heap_alloc_new w _, xs.toArray, (0, 0), rfl, by simp [whole], fun i v hv => by simpa [whole] using hv, fun _ => rfl⟩
  · rw [ins_other _ _ eg] at hg
    exact h.alloc _ g e' hg
theorem Heap.le.ins_ins {H H' : Heap} {g : Nat} {e : Ent} (h : Heap.le H H') (hg : H' g = none) : Heap.le (ins H g e) (ins H' g e) := fun k x hk => by
  by_cases ek : k = g
  · subst ek
    rw [ins_same] at hk ⊢
    exact ⟨x, hk, .refl x⟩
  · rw [ins_other _ _ ek] at hk ⊢
    exact h k x hk
/-- TWO OPERATIONS IN THE OTHER ORDER. -/
theorem OpVC.swapO (hmd : md ≠ .plain) (hisK : md.isK = false) (hw : Swp md all x y) (hxn : ∀ d, x.dst = some d → d < n) (hyn : ∀ d, y.dst = some d → d < n)
    (hS : ∃ a, Vals n s a) (hH : Real H) (h : OpVC P n all md x s H (fun s1 H1 => OpVC P n all md y s1 H1 K)) : OpVC P n all md y s H (fun s2 H2 => OpVC P n all md x s2 H2 K) := by
  have hxl : ∀ d, x.dst = some d → d < n ∧ d ∉ y.looksAt all := fun d hd => ⟨hxn d hd, hw.xy d hd⟩
  have hyl : ∀ d, y.dst = some d → d < n ∧ d ∉ x.looksAt all := fun d hd => ⟨hyn d hd, hw.yx d hd⟩
  have hne' : ∀ d, y.dst = some d → x.dst ≠ some d := fun d hd e => hw.ne d e hd
  -- no local variable is written over
  have nbY : ∀ {X : Slot}, (∀ cs, X ≠ .box cs) → md.nb (putO s x.dst X) y.dst = true → md.nb s y.dst = true := fun {X} hX hn => by
    rw [nb_iff hmd hisK] at hn ⊢
    intro k cs hk hs
    exact hn k cs hk (by rw [putO_at (hne' k hk)]; exact hs)
  have nbX : ∀ {Y : Slot}, md.nb s x.dst = true → md.nb (putO s y.dst Y) x.dst = true := fun {Y} hn => by
    rw [nb_iff hmd hisK] at hn ⊢
    intro k cs hk hs
    exact hn k cs hk (by rw [putO_at (hw.ne k hk)] at hs; exact hs)
  have goodY : ∀ {X Y : Slot}, (∀ cs, X ≠ .box cs) → Y.good (putO s x.dst X) = true → Y.good s = true := fun {X Y} hX hg => by
    rw [good_iff] at hg ⊢
    exact ⟨hg.1, fun b o e => by obtain ⟨cs, hc⟩ := hg.2 b o e; exact ⟨cs, (putO_box hX hc).2⟩⟩
  have goodX : ∀ {X Y : Slot}, md.nb s y.dst = true → X.good s = true → X.good (putO s y.dst Y) = true := fun {X Y} hn hg => by
    rw [good_iff] at hg ⊢
    refine ⟨hg.1, fun b o e => ?_⟩
    obtain ⟨cs, hc⟩ := hg.2 b o e
    exact ⟨cs, by rw [putO_at (fun hk => (nb_iff hmd hisK _).1 hn b cs hk hc)]; exact hc⟩
  have boxY : ∀ {k : Nat} {cs : List Value}, md.nb s y.dst = true → y.dst = some k → s k ≠ some (.box cs) := fun {k cs} hn hk => (nb_iff hmd hisK _).1 hn k cs hk
  have behB : ∀ {X Y : Slot} {H1 H2 : Heap}, md.nb s y.dst = true → (∀ c, Y ≠ .box c) → Heap.le H1 H2 → (∀ s', BoxEq md s s' → DetB P n all x s' H1 X) → ∀ s', BoxEq md (putO s y.dst Y) s' → DetB P n all x s' H2 X := fun {X Y H1 H2} n1 hY hl h s' e => by
    obtain ⟨s'', e1, rfl, e2⟩ := e.unput hY
    exact (h _ e1).move (mvB_behind hw.xs hyl (fun k cs hk => by rw [e2 k hk]; exact boxY n1 hk)) hl
  cases h with
  | detN v hm nb h k =>
    have hX : ∀ cs, Slot.val v ≠ .box cs := fun cs e => by cases e
    cases k with
    | detN v' hm' nb' h' k' =>
      have n1 := nbY hX nb'
      refine .detN v' hm' n1 (h'.move (mv_before_det hw.ys hxl) (.refl _)) (.detN v hm (nbX nb) (h.move (mv_behind hw.xs hyl) (.refl _)) ?_)
      rw [← putO_comm _ _ hw.ne]; exact k'
    | detB X' hm' nb' hx' h' k' =>
      have n1 := nbY hX nb'
      refine .detB X' hm' n1 (goodY hX hx') (fun s' e => (h' _ (e.putO _ _)).move (mvB_before_det hX hw.ys hxl) (.refl _)) (.detN v hm (nbX nb) (h.move (mv_behind hw.xs hyl) (.refl _)) ?_)
      rw [← putO_comm _ _ hw.ne]; exact k'
    | boxNew d hd hm' nb' cs h' k' =>
      have n1 := nbY hX nb'
      refine .boxNew d hd hm' n1 cs (h'.move (mv_before_det hw.ys hxl)) (.detN v hm ?_ (h.move (mv_behind_box hw.xs (hyn d hd) (hw.yx d hd)) (.refl _)) ?_)
      · rw [nb_iff hmd hisK] at nb ⊢
        intro k cs' hk hs
        rcases putBox_box hs with ⟨e, _⟩ | ⟨_, hs⟩
        · exact hw.ne k hk (by rw [hd, e])
        · exact nb k cs' hk hs
      · rw [← putO_putBox (fun e => hw.ne d e hd) (fun b o e => by cases e)]; exact k'
    | boxStore b cs cs' hd hm' hb hsw h' k' =>
      obtain ⟨hxb, hb0⟩ := putO_box hX hb
      refine .boxStore b cs cs' hd hm' hb0 hsw (h'.move (mvB_before_det hX hw.ys hxl)) (.detN v hm ?_ (h.move (mv_behind_store hb0) (.refl _)) ?_)
      · rw [nb_iff hmd hisK] at nb ⊢
        intro k c hk hs
        by_cases e : k = b
        · subst e; exact hxb hk
        · rw [put_other _ _ e] at hs; exact nb k c hk hs
      · rw [← putO_store hxb]; exact k'
    | fresh mk xs e hm' nb' h' k' =>
      have n1 := nbY hX nb'
      refine .fresh mk xs e hm' n1 (h'.move (mv_before_det hw.ys hxl)) fun g hg hr => .detN v hm (nbX nb) (h.move (mv_behind hw.xs hyl) (Heap.le_ins _ hg)) ?_
      rw [← putO_comm _ _ hw.ne]; exact k' g hg hr
    | detC _ hkk _ _ _ _ _ => rw [hisK] at hkk; cases hkk
    | freshK _ _ _ hkk _ _ _ _ => rw [hisK] at hkk; cases hkk
    | effK _ hkk _ _ _ _ _ => rw [hisK] at hkk; cases hkk
    | eff Post ha nb' h' hm' k' =>
      have ha2 := eff_two hmd ha
      have n1 := nbY hX nb'
      have hmono : ∀ u H', Post u H' → Heap.le H H' := by
        cases md with
        | plain => exact absurd rfl hmd
        | drawB => exact hm'.2
        | drawT st => exact hm'.2
        | drawH =>
          rcases hm' with e | e
          · have := kd_store.1 e
            rcases hw.kind with ⟨_, h1 | h1 | h1 | h1⟩ | h1
            · omega
            · omega
            · omega
            · exact absurd h1.2.1 (by decide)
            · omega
          · exact e
        | drawK k => cases hisK
        | drawC =>
          rcases hw.kind with ⟨_, h1 | h1 | h1 | h1⟩ | h1
          · omega
          · exact absurd h1.2 (by decide)
          · omega
          · exact absurd h1.2.1 (by decide)
          · omega
      refine .eff Post ha n1 (h'.move (mv_before_det hw.ys hxl)) hm' fun u H' hp hr => .detN v hm (nbX nb) (h.move (mv_behind hw.xs hyl) (hmono u H' hp)) ?_
      rw [← putO_comm _ _ hw.ne]; exact k' u H' hp hr
  | detB X hm nb hx h k =>
    have hX := (good_iff.1 hx).1
    have kx := kd_mem hm
    cases k with
    | detN v' hm' nb' h' k' =>
      have n1 := nbY hX nb'
      refine .detN v' hm' n1 (h'.move (mv_before_det hw.ys hxl) (.refl _)) (.detB X hm (nbX nb) (goodX n1 hx) (behB n1 (fun c e => by cases e) (.refl _) h) ?_)
      rw [← putO_comm _ _ hw.ne]; exact k'
    | detB X' hm' nb' hx' h' k' =>
      have n1 := nbY hX nb'
      refine .detB X' hm' n1 (goodY hX hx') (fun s' e => (h' _ (e.putO _ _)).move (mvB_before_det hX hw.ys hxl) (.refl _)) (.detB X hm (nbX nb) (goodX n1 hx) (behB n1 (good_iff.1 hx').1 (.refl _) h) ?_)
      rw [← putO_comm _ _ hw.ne]; exact k'
    | boxNew d hd hm' nb' cs h' k' =>
      have n1 := nbY hX nb'
      have hdb : ∀ cs, s d ≠ some (.box cs) := fun cs => boxY n1 hd
      refine .boxNew d hd hm' n1 cs (h'.move (mv_before_det hw.ys hxl)) (.detB X hm ?_ ?_ (fun s' e => by
        obtain ⟨s'', c'', e1, rfl, e2⟩ := e.unbox
        exact (h _ e1).move (mvB_behind_box hw.xs (hyn d hd) (hw.yx d hd) (fun cs => by rw [e2]; exact hdb cs)) (.refl _)) ?_)
      · rw [nb_iff hmd hisK] at nb ⊢
        intro k cs' hk hs
        rcases putBox_box hs with ⟨e, _⟩ | ⟨_, hs⟩
        · exact hw.ne k hk (by rw [hd, e])
        · exact nb k cs' hk hs
      · rw [good_iff] at hx ⊢
        refine ⟨hx.1, fun b o e => ?_⟩
        obtain ⟨c, hc⟩ := hx.2 b o e
        exact ⟨c, putBox_keep (fun e => by subst e; exact hdb c hc) hc (fun b o e => by cases e)⟩
      · rw [← putO_putBox (fun e => hw.ne d e hd) (fun b o e hb => by subst hb; obtain ⟨c, hc⟩ := (good_iff.1 hx).2 b o e; exact hdb c hc)]; exact k'
    | boxStore b cs cs' hd hm' hb hsw h' k' =>
      have := kd_store.1 hm'
      have hT : md.isT = true := by
        rcases hw.kind with ⟨_, h1 | h1 | h1 | h1⟩ | h1
        · omega
        · omega
        · omega
        · rcases h1.2.2 with h2 | h2
          · exact h2
          · rw [hm] at h2; cases h2
        · omega
      have hwr : md.wr b = true := by
        cases md <;> first | exact hsw | cases hT
      obtain ⟨hxb, hb0⟩ := putO_box hX hb
      refine .boxStore b cs cs' hd hm' hb0 hsw (h'.move (mvB_before_det hX hw.ys hxl)) (.detB X hm ?_ ?_ (fun s' e => h s' (e.store hb0 hwr)) ?_)
      · rw [nb_iff hmd hisK] at nb ⊢
        intro k c hk hs
        by_cases e : k = b
        · subst e; exact hxb hk
        · rw [put_other _ _ e] at hs; exact nb k c hk hs
      · rw [good_iff] at hx ⊢
        refine ⟨hx.1, fun b' o e => ?_⟩
        obtain ⟨c, hc⟩ := hx.2 b' o e
        by_cases e2 : b' = b
        · subst e2; exact ⟨cs', put_same _ _ _⟩
        · exact ⟨c, by rw [put_other _ _ e2]; exact hc⟩
      · rw [← putO_store hxb]; exact k'
    | fresh mk xs e hm' nb' h' k' =>
      have n1 := nbY hX nb'
      refine .fresh mk xs e hm' n1 (h'.move (mv_before_det hw.ys hxl)) fun g hg hr => .detB X hm (nbX nb) (goodX n1 hx) (behB n1 (fun c e => by cases e) (Heap.le_ins _ hg) h) ?_
      rw [← putO_comm _ _ hw.ne]; exact k' g hg hr
    | detC _ hkk _ _ _ _ _ => rw [hisK] at hkk; cases hkk
    | freshK _ _ _ hkk _ _ _ _ => rw [hisK] at hkk; cases hkk
    | effK _ hkk _ _ _ _ _ => rw [hisK] at hkk; cases hkk
    | eff Post ha nb' h' hm' k' =>
      have ha2 := eff_two hmd ha
      have n1 := nbY hX nb'
      have hmono : ∀ u H', Post u H' → Heap.le H H' := by
        cases md with
        | plain => exact absurd rfl hmd
        | drawB => exact hm'.2
        | drawT st => exact hm'.2
        | drawH =>
          rcases hm' with e | e
          · have := kd_store.1 e
            rcases hw.kind with ⟨_, h1 | h1 | h1 | h1⟩ | h1
            · omega
            · omega
            · omega
            · exact absurd h1.2.1 (by decide)
            · omega
          · exact e
        | drawK k => cases hisK
        | drawC =>
          rcases hw.kind with ⟨_, h1 | h1 | h1 | h1⟩ | h1
          · omega
          · exact absurd h1.2 (by decide)
          · omega
          · exact absurd h1.2.1 (by decide)
          · omega
      refine .eff Post ha n1 (h'.move (mv_before_det hw.ys hxl)) hm' fun u H' hp hr => .detB X hm (nbX nb) (goodX n1 hx) (behB n1 (fun c e => by cases e) (hmono u H' hp) h) ?_
      rw [← putO_comm _ _ hw.ne]; exact k' u H' hp hr
  | boxNew dx hdx hmx nbx cx hx k =>
    have kx := kd_alloc.1 (show isAlloc x.op = true by simp [isAlloc, hmx])
    have hky : kd y.op = 3 ∧ y.guard = none := by
      rcases hw.kind with ⟨h1, _⟩ | h1
      · omega
      · exact ⟨h1.2.1, h1.2.2.1⟩
    have n1 : md.nb (putBox s dx cx) y.dst = true → md.nb s y.dst = true := fun hn => by
      rw [nb_iff hmd hisK] at hn ⊢
      intro k cs hk hs
      exact hn k cs hk (putBox_keep (fun e => hne' k hk (by rw [hdx, e])) hs (fun b o e => by cases e))
    cases k with
    | detN v' hm' nb' h' k' =>
      rcases hm' with e | e
      · rw [kd_alloc.2 hky.1] at e; cases e
      · exact absurd hky.2 e
    | detB X' hm' nb' hx' h' k' => have := kd_mem hm'; omega
    | boxNew d hd hm' nb' cs h' k' =>
      refine .boxNew d hd hm' (n1 nb') cs (h'.move mv_before_box) (.boxNew dx hdx hmx ?_ cx (hx.move (mv_behind_box hw.xs (hyn d hd) (hw.yx d hd))) ?_)
      · rw [nb_iff hmd hisK] at nbx ⊢
        intro k cs' hk hs
        rcases putBox_box hs with ⟨e, _⟩ | ⟨_, hs⟩
        · exact hw.ne k hk (by rw [hd, e])
        · exact nbx k cs' hk hs
      · rw [← putBox_putBox (fun e => hw.ne dx hdx (by rw [hd, e]))]; exact k'
    | boxStore b cs cs' hd hm' hb hsw h' k' => have := kd_store.1 hm'; omega
    | fresh mk xs e hm' nb' h' k' =>
      refine .fresh mk xs e hm' (n1 nb') (h'.move mv_before_box) fun g hg hr => .boxNew dx hdx hmx (nbX nbx) cx (hx.move (mv_behind hw.xs hyl)) ?_
      rw [putO_putBox (fun e => hne' dx e hdx) (fun b o e => by cases e)]; exact k' g hg hr
    | detC _ hkk _ _ _ _ _ => rw [hisK] at hkk; cases hkk
    | freshK _ _ _ hkk _ _ _ _ => rw [hisK] at hkk; cases hkk
    | effK _ hkk _ _ _ _ _ => rw [hisK] at hkk; cases hkk
    | eff Post ha nb' h' hm' k' => have ha2 := eff_two hmd ha; omega
  | boxStore b cs cs' hd hm hb hsw h k =>
    have := kd_store.1 hm
    rcases hw.kind with ⟨h1, _⟩ | h1 <;> omega
  | fresh mkx xsx ex hmx nbx hx k =>
    have kx : kd x.op = 3 := kd_alloc.1 (by rcases hmx with e | ⟨e, _⟩ <;> simp [isAlloc, e] at * )
    have hky : kd y.op = 3 ∧ y.guard = none := by
      rcases hw.kind with ⟨h1, _⟩ | h1
      · omega
      · exact ⟨h1.2.1, h1.2.2.1⟩
    obtain ⟨w, hd⟩ := hH
    have hd1 : Den (ins H w.heap.size (whole xsx ex)) (w.alloc (.cells xsx.toArray ex (0, 0))) := Den.allocIns hd xsx ex
    rcases alloc_parts hky.1 with ⟨hbox, hbld⟩ | ⟨hbox, hbld⟩
    · -- y is a new local variable
      have only : ∀ g, H g = none → Real (ins H g (whole xsx ex)) → ∃ d cs, y.dst = some d ∧ md.nb s y.dst = true ∧ BoxNew P n all y s cs ∧ K (putBox (putO s x.dst (.val (mkx g))) d cs) (ins H g (whole xsx ex)) := by
        intro g hg hr
        cases k g hg hr with
        | detN v' hm' nb' h' k' =>
          rcases hm' with e | e
          · rw [kd_alloc.2 hky.1] at e; cases e
          · exact absurd hky.2 e
        | detB X' hm' nb' hx' h' k' => have := kd_mem hm'; omega
        | boxStore b cs cs' hd hm' hb hsw h' k' => have := kd_store.1 hm'; omega
        | detC _ hkk _ _ _ _ _ => rw [hisK] at hkk; cases hkk
        | freshK _ _ _ hkk _ _ _ _ => rw [hisK] at hkk; cases hkk
        | effK _ hkk _ _ _ _ _ => rw [hisK] at hkk; cases hkk
        | eff Post ha nb' h' hm' k' => have ha2 := eff_two hmd ha; omega
        | fresh mk xs e hm' nb' h' k' =>
          rcases hm' with e | e
          · rw [hbld] at e; cases e
          · exact absurd e.1 hmd
        | boxNew d hd hm' nb' cs h' k' => exact ⟨d, cs, hd, nbY (fun cs e => by cases e) nb', h'.move (mv_before_det hw.ys hxl), k'⟩
      obtain ⟨d, cs, hdy, nby, hy, _⟩ := only _ hd.fresh ⟨_, hd1⟩
      refine .boxNew d hdy hbox nby cs hy (.fresh mkx xsx ex hmx ?_ (hx.move (mv_behind_box hw.xs (hyn d hdy) (hw.yx d hdy))) fun g hg hr => ?_)
      · rw [nb_iff hmd hisK] at nbx ⊢
        intro k cs' hk hs
        rcases putBox_box hs with ⟨e, _⟩ | ⟨_, hs⟩
        · exact hw.ne k hk (by rw [hdy, e])
        · exact nbx k cs' hk hs
      · obtain ⟨d', cs', hdy', _, hy', hk⟩ := only g hg hr
        obtain rfl : d' = d := by rw [hdy] at hdy'; cases hdy'; rfl
        obtain rfl := hy.uniq hS hy'
        rw [← putO_putBox (fun e => hw.ne _ e hdy) (fun b o e => by cases e)]; exact hk
    · have only : ∀ g, H g = none → Real (ins H g (whole xsx ex)) → ∃ mk xs e, md.nb s y.dst = true ∧ Fresh P n all y s mk xs e ∧ ∀ g', ins H g (whole xsx ex) g' = none → Real (ins (ins H g (whole xsx ex)) g' (whole xs e)) → K (putO (putO s x.dst (.val (mkx g))) y.dst (.val (mk g'))) (ins (ins H g (whole xsx ex)) g' (whole xs e)) := by
        intro g hg hr
        cases k g hg hr with
        | detN v' hm' nb' h' k' =>
          rcases hm' with e | e
          · rw [kd_alloc.2 hky.1] at e; cases e
          · exact absurd hky.2 e
        | detB X' hm' nb' hx' h' k' => have := kd_mem hm'; omega
        | boxStore b cs cs' hd hm' hb hsw h' k' => have := kd_store.1 hm'; omega
        | detC _ hkk _ _ _ _ _ => rw [hisK] at hkk; cases hkk
        | freshK _ _ _ hkk _ _ _ _ => rw [hisK] at hkk; cases hkk
        | effK _ hkk _ _ _ _ _ => rw [hisK] at hkk; cases hkk
        | eff Post ha nb' h' hm' k' => have ha2 := eff_two hmd ha; omega
        | boxNew d hd hm' nb' cs h' k' => rw [hbox] at hm'; cases hm'
        | fresh mk xs e hm' nb' h' k' => exact ⟨mk, xs, e, nbY (fun cs e => by cases e) nb', h'.move (mv_before_det hw.ys hxl), k'⟩
      obtain ⟨mk, xs, e, nby, hy, _⟩ := only _ hd.fresh ⟨_, hd1⟩
      refine .fresh mk xs e (.inl hbld) nby hy fun g' hg' hr' => .fresh mkx xsx ex hmx (nbX nbx) (hx.move (mv_behind hw.xs hyl)) fun g hg hr => ?_
      have hne : g ≠ g' := fun e' => by subst e'; rw [ins_same] at hg; cases hg
      have hg0 : H g = none := by rw [ins_other _ _ hne] at hg; exact hg
      have hr1 : Real (ins H g (whole xsx ex)) := by
        obtain ⟨w1, hw1⟩ := hr
        rw [ins_comm _ _ _ hne.symm] at hw1
        exact ⟨w1, hw1.le (Heap.le_ins _ (by rw [ins_other _ _ hne.symm]; exact hg'))⟩
      obtain ⟨mk', xs', e', _, hy', hk⟩ := only g hg0 hr1
      obtain ⟨rfl, rfl, rfl⟩ := hy.uniq hS hy'
      have := hk g' (by rw [ins_other _ _ hne.symm]; exact hg') (by rw [ins_comm _ _ _ hne]; exact hr)
      rw [← putO_comm _ _ hw.ne, ins_comm _ _ _ hne.symm]; exact this
  | detC _ hkk _ _ _ _ _ => rw [hisK] at hkk; cases hkk
  | freshK _ _ _ hkk _ _ _ _ => rw [hisK] at hkk; cases hkk
  | effK _ hkk _ _ _ _ _ => rw [hisK] at hkk; cases hkk
  | eff Postx hax nbx hx hmx k =>
    have ha2 := eff_two hmd hax
    obtain ⟨v0, H0', hp0, hr0⟩ := hx.some hS hH
    rcases hw.kind with ⟨kx0, hy0⟩ | ⟨_, hky1, hky2, _⟩
    · omega
    · have hky : kd y.op = 3 ∧ y.guard = none := ⟨hky1, hky2⟩
      rcases alloc_parts hky.1 with ⟨hbox, hbld⟩ | ⟨hbox, hbld⟩
      · have only : ∀ v H', Postx v H' → Real H' → ∃ d cs, y.dst = some d ∧ md.nb s y.dst = true ∧ BoxNew P n all y s cs ∧ K (putBox (putO s x.dst (.val v)) d cs) H' := by
          intro v H' hp hr
          cases k v H' hp hr with
          | detN v' hm' nb' h' k' =>
            rcases hm' with e | e
            · rw [kd_alloc.2 hky.1] at e; cases e
            · exact absurd hky.2 e
          | detB X' hm' nb' hx' h' k' => have := kd_mem hm'; omega
          | boxStore b cs cs' hd hm' hb hsw h' k' => have := kd_store.1 hm'; omega
          | detC _ hkk _ _ _ _ _ => rw [hisK] at hkk; cases hkk
          | freshK _ _ _ hkk _ _ _ _ => rw [hisK] at hkk; cases hkk
          | effK _ hkk _ _ _ _ _ => rw [hisK] at hkk; cases hkk
          | eff Post ha nb' h' hm' k' => have ha2 := eff_two hmd ha; omega
          | fresh mk xs e hm' nb' h' k' =>
            rcases hm' with e | e
            · rw [hbld] at e; cases e
            · exact absurd e.1 hmd
          | boxNew d hd hm' nb' cs h' k' => exact ⟨d, cs, hd, nbY (fun cs e => by cases e) nb', h'.move (mv_before_det hw.ys hxl), k'⟩
        obtain ⟨d, cs, hdy, nby, hy, _⟩ := only v0 H0' hp0 hr0
        refine .boxNew d hdy hbox nby cs hy (.eff Postx hax ?_ (hx.move (mv_behind_box hw.xs (hyn d hdy) (hw.yx d hdy))) hmx fun v H' hp hr => ?_)
        · rw [nb_iff hmd hisK] at nbx ⊢
          intro k cs' hk hs
          rcases putBox_box hs with ⟨e, _⟩ | ⟨_, hs⟩
          · exact hw.ne k hk (by rw [hdy, e])
          · exact nbx k cs' hk hs
        · obtain ⟨d', cs', hdy', _, hy', hk⟩ := only v H' hp hr
          obtain rfl : d' = d := by rw [hdy] at hdy'; cases hdy'; rfl
          obtain rfl := hy.uniq hS hy'
          rw [← putO_putBox (fun e => hw.ne _ e hdy) (fun b o e => by cases e)]; exact hk
      · have only : ∀ v H', Postx v H' → Real H' → ∃ mk xs e, md.nb s y.dst = true ∧ Fresh P n all y s mk xs e ∧ ∀ g', H' g' = none → Real (ins H' g' (whole xs e)) → K (putO (putO s x.dst (.val v)) y.dst (.val (mk g'))) (ins H' g' (whole xs e)) := by
          intro v H' hp hr
          cases k v H' hp hr with
          | detN v' hm' nb' h' k' =>
            rcases hm' with e | e
            · rw [kd_alloc.2 hky.1] at e; cases e
            · exact absurd hky.2 e
          | detB X' hm' nb' hx' h' k' => have := kd_mem hm'; omega
          | boxStore b cs cs' hd hm' hb hsw h' k' => have := kd_store.1 hm'; omega
          | detC _ hkk _ _ _ _ _ => rw [hisK] at hkk; cases hkk
          | freshK _ _ _ hkk _ _ _ _ => rw [hisK] at hkk; cases hkk
          | effK _ hkk _ _ _ _ _ => rw [hisK] at hkk; cases hkk
          | eff Post ha nb' h' hm' k' => have ha2 := eff_two hmd ha; omega
          | boxNew d hd hm' nb' cs h' k' => rw [hbox] at hm'; cases hm'
          | fresh mk xs e hm' nb' h' k' => exact ⟨mk, xs, e, nbY (fun cs e => by cases e) nb', h'.move (mv_before_det hw.ys hxl), k'⟩
        obtain ⟨mk, xs, e, nby, hy, _⟩ := only v0 H0' hp0 hr0
        refine .fresh mk xs e (.inl hbld) nby hy fun g hg hr => .eff _ hax (nbX nbx) ((hx.move (mv_behind hw.xs hyl)).frame hg) ?_ fun v H'' hp'' hr'' => ?_
        · cases md with
          | plain => exact absurd rfl hmd
          | drawT st =>
            refine ⟨hmx.1, fun v H'' hp'' => ?_⟩
            obtain ⟨H', hp, hg', rfl⟩ := hp''
            exact Heap.le.ins_ins (hmx.2 v H' hp) hg'
          | drawB =>
            refine ⟨hmx.1, fun v H'' hp'' => ?_⟩
            obtain ⟨H', hp, hg', rfl⟩ := hp''
            exact Heap.le.ins_ins (hmx.2 v H' hp) hg'
          | drawH =>
            rcases hmx with e' | e'
            · exact .inl e'
            · refine .inr fun v H'' hp'' => ?_
              obtain ⟨H', hp, hg', rfl⟩ := hp''
              exact Heap.le.ins_ins (e' v H' hp) hg'
          | drawC => trivial
          | drawK k => trivial
        · obtain ⟨H', hp, hg', rfl⟩ := hp''
          have hr1 : Real H' := by
            obtain ⟨w1, hw1⟩ := hr''
            exact ⟨w1, hw1.le (Heap.le_ins _ hg')⟩
          obtain ⟨mk', xs', e', _, hy', hk⟩ := only v H' hp hr1
          obtain ⟨rfl, rfl, rfl⟩ := hy.uniq hS hy'
          rw [← putO_comm _ _ hw.ne]; exact hk g hg' hr''
theorem nbK_iff (d : Option Nat) : nbK s d = true ↔ ∀ k cs, d = some k → s k ≠ some (.box cs) := by
  cases d with
  | none => simp [nbK]
  | some d =>
    have e : nbK s (some d) = (match s d with | some (.box _) => false | _ => true) := rfl
    rw [e]
    cases hs : s d with
    | none => exact ⟨(fun _ k cs hk h => by cases hk; rw [hs] at h; cases h), fun _ => rfl⟩
    | some z =>
      cases z with
      | val v => exact ⟨(fun _ k cs hk h => by cases hk; rw [hs] at h; cases h), fun _ => rfl⟩
      | box c => exact ⟨(fun h => by cases h), fun h => absurd hs (h d c rfl)⟩
      | ref b o => exact ⟨(fun _ k cs hk h => by cases hk; rw [hs] at h; cases h), fun _ => rfl⟩
theorem nb_K (hK : md.isK = true) {d : Option Nat} (h : md.nb s d = true) : False := by
  cases md <;> simp [Mode.isK, Mode.nb] at hK h
/-- .. where effects leave some cells alone. -/
theorem OpVC.swapK (hK : md.isK = true) (hw : Swp md all x y) (hxn : ∀ d, x.dst = some d → d < n) (hyn : ∀ d, y.dst = some d → d < n)
    (h : OpVC P n all md x s H (fun s1 H1 => OpVC P n all md y s1 H1 K)) : OpVC P n all md y s H (fun s2 H2 => OpVC P n all md x s2 H2 K) := by
  have hxl : ∀ d, x.dst = some d → d < n ∧ d ∉ y.looksAt all := fun d hd => ⟨hxn d hd, hw.xy d hd⟩
  have hyl : ∀ d, y.dst = some d → d < n ∧ d ∉ x.looksAt all := fun d hd => ⟨hyn d hd, hw.yx d hd⟩
  have hne' : ∀ d, y.dst = some d → x.dst ≠ some d := fun d hd e => hw.ne d e hd
  have kx : kd x.op = 0 := by
    rcases hw.kind with h1 | h1
    · exact h1.1
    · rw [hK] at h1; exact absurd h1.2.2.2 (by decide)
  have ky : kd y.op ≠ 2 := fun e => by
    rcases hw.kind with ⟨_, h1 | h1 | h1 | h1⟩ | h1
    · omega
    · omega
    · omega
    · have := h1.2.1
      cases md <;> simp [Mode.isK, Mode.isB] at hK this
    · omega
  have nbY : ∀ {v : Value}, nbK (putO s x.dst (.val v)) y.dst = true → nbK s y.dst = true := fun {v} hn => by
    rw [nbK_iff] at hn ⊢
    intro k cs hk hs
    exact hn k cs hk (by rw [putO_at (hne' k hk)]; exact hs)
  have nbX : ∀ {v : Value}, nbK s x.dst = true → nbK (putO s y.dst (.val v)) x.dst = true := fun {v} hn => by
    rw [nbK_iff] at hn ⊢
    intro k cs hk hs
    exact hn k cs hk (by rw [putO_at (hw.ne k hk)] at hs; exact hs)
  cases h with
  | detN v hm nb h k => exact (nb_K hK nb).elim
  | detB X hm nb hx h k => exact (nb_K hK nb).elim
  | boxNew d hd hm nb cs h k => exact (nb_K hK nb).elim
  | boxStore b cs cs' hd hm hb hsw h k => have := kd_store.1 hm; omega
  | fresh mk xs e hm nb h k => exact (nb_K hK nb).elim
  | eff Post ha nb h hm k => exact (nb_K hK nb).elim
  | freshK mk xs e hk hm nb h k => have := kd_alloc.1 (show isAlloc x.op = true by simp [isAlloc, hm]); omega
  | effK Post hk ha nb h hm k => omega
  | detC v hk hm nb hc h k =>
    cases k with
    | detN v hm nb h k => exact (nb_K hK nb).elim
    | detB X hm nb hx h k => exact (nb_K hK nb).elim
    | boxNew d hd hm nb cs h k => exact (nb_K hK nb).elim
    | boxStore b cs cs' hd hm hb hsw h k => exact absurd (kd_store.1 hm) ky
    | fresh mk xs e hm nb h k => exact (nb_K hK nb).elim
    | eff Post ha nb h hm k => exact (nb_K hK nb).elim
    | detC v' hk' hm' nb' hc' h' k' =>
      refine .detC v' hk' hm' (nbY nb') hc (h'.move (mv_before_det hw.ys hxl)) (.detC v hk hm (nbX nb) hc (h.move (mv_behind hw.xs hyl)) ?_)
      rw [← putO_comm _ _ hw.ne]; exact k'
    | freshK mk xs e hk' hm' nb' h' k' =>
      refine .freshK mk xs e hk' hm' (nbY nb') (h'.move (mv_before_det hw.ys hxl)) fun g hg hr => .detC v hk hm (nbX nb) (fun ad u hu => cell_le (Heap.le_ins _ hg) (hc ad u hu)) (h.move (mv_behind hw.xs hyl)) ?_
      rw [← putO_comm _ _ hw.ne]; exact k' g hg hr
    | effK Post hk' ha' nb' h' hm' k' =>
      have hcov : ∀ u H', Post u H' → md.cov H' := by
        rcases hm' with e | e
        · exact absurd (kd_store.1 e) ky
        · exact e
      refine .effK Post hk' ha' (nbY nb') (h'.move (mv_before_det hw.ys hxl)) hm' fun u H' hp hr => .detC v hk hm (nbX nb) (hcov u H' hp) (h.move (mv_behind hw.xs hyl)) ?_
      rw [← putO_comm _ _ hw.ne]; exact k' u H' hp hr
theorem OpVC.swap (hmd : md ≠ .plain) (hw : Swp md all x y) (hxn : ∀ d, x.dst = some d → d < n) (hyn : ∀ d, y.dst = some d → d < n)
    (hS : ∃ a, Vals n s a) (hH : Real H) (h : OpVC P n all md x s H (fun s1 H1 => OpVC P n all md y s1 H1 K)) : OpVC P n all md y s H (fun s2 H2 => OpVC P n all md x s2 H2 K) := by
  cases hK : md.isK with
  | false => exact OpVC.swapO hmd hK hw hxn hyn hS hH h
  | true => exact OpVC.swapK hK hw hxn hyn h
end
end Go.Eng
/- The engine, part 5: lists of operations, and regions, in the order of the text or in a drawn order. -/
namespace Go.Eng
section
variable (P : Program) (n : Nat) (all : Array Oper) (md : Mode)
/-- Operations one behind the other. -/
def VCO : List Oper → St → Heap → (St → Heap → Prop) → Prop
  | [], s, H, K => K s H
  | o :: r, s, H, K => OpVC P n all md o s H (fun s' H' => VCO r s' H' K)
end
section
variable {P : Program} {n : Nat} {all : Array Oper} {md : Mode} {s : St} {H : Heap} {K K' : St → Heap → Prop}
theorem OpVC.monoR {o : Oper} (hdst : ∀ d, o.dst = some d → d < n) (hS : ∃ a, Vals n s a) (hH : Real H) (h : OpVC P n all md o s H K)
    (hk : ∀ s H, (∃ a, Vals n s a) → Real H → K s H → K' s H) : OpVC P n all md o s H K' := by
  obtain ⟨a, ha⟩ := hS
  have hput : ∀ X : Slot, (∃ a, Vals n (putO s o.dst X) a) := fun X => by
    obtain ⟨d⟩ | hd : o.dst = none ∨ ∃ d, o.dst = some d := by cases o.dst <;> simp
    · rw [‹o.dst = none›]; exact ⟨a, ha⟩
    · obtain ⟨d, hd⟩ := hd
      rw [hd]
      have key : ∀ u, (∀ v, X = .val v → u = v) → ∃ a, Vals n (putO s (some d) X) a := fun u hu => by
        refine ⟨a.put (some d) u, by rw [Act.put_size]; exact ha.size, fun t v ht => ?_⟩
        by_cases e : t = d
        · subst e
          rw [show putO s (some t) X = put s t X from rfl, put_same] at ht
          simp only [Option.some.injEq] at ht
          rw [Act.tmps_put_same _ _ _ (by rw [ha.size]; exact hdst t hd), hu v ht]
        · rw [show putO s (some d) X = put s d X from rfl, put_other _ _ e] at ht
          rw [Act.tmps_put_other _ _ e]; exact ha.at_ t v ht
      cases X with
      | val v => exact key v (fun v' h => by cases h; rfl)
      | box cs => exact key undef (fun v' h => by cases h)
      | ref b off => exact key undef (fun v' h => by cases h)
  cases h with
  | detN v hm nb h k => exact .detN v hm nb h (hk _ _ (hput _) hH k)
  | detB x hm nb hx h k => exact .detB x hm nb hx h (hk _ _ (hput _) hH k)
  | boxNew d hd hm nb cs h k => exact .boxNew d hd hm nb cs h (hk _ _ ⟨a, ha.size, fun t v ht => ha.at_ t v (putBox_val ht).2⟩ hH k)
  | boxStore b cs cs' hd hm hb hsw h k =>
    refine .boxStore b cs cs' hd hm hb hsw h (hk _ _ ⟨a, ha.size, fun t v ht => ?_⟩ hH k)
    by_cases e : t = b
    · subst e; rw [put_same] at ht; cases ht
    · rw [put_other _ _ e] at ht; exact ha.at_ t v ht
  | fresh mk xs e hm nb h k => exact .fresh mk xs e hm nb h fun g hg hr => hk _ _ (hput _) hr (k g hg hr)
  | eff Post ha' nb h hm k => exact .eff Post ha' nb h hm fun v H' hp hr => hk _ _ (hput _) hr (k v H' hp hr)
  | detC v hkk hm nb hc h k => exact .detC v hkk hm nb hc h (hk _ _ (hput _) hH k)
  | freshK mk xs e hkk hm nb h k => exact .freshK mk xs e hkk hm nb h fun g hg hr => hk _ _ (hput _) hr (k g hg hr)
  | effK Post hkk ha' nb h hm k => exact .effK Post hkk ha' nb h hm fun v H' hp hr => hk _ _ (hput _) hr (k v H' hp hr)
theorem VCO.front (hmd : md ≠ .plain) {y : Oper} {Y : List Oper} (hyn : ∀ d, y.dst = some d → d < n) : ∀ (X : List Oper) (s : St) (H : Heap), (∀ x, x ∈ X → Swp md all x y) → (∀ x, x ∈ X → ∀ d, x.dst = some d → d < n) →
    (∃ a, Vals n s a) → Real H → VCO P n all md (X ++ y :: Y) s H K → VCO P n all md (y :: (X ++ Y)) s H K := by
  intro X
  induction X with
  | nil => intro s H _ _ _ _ h; exact h
  | cons x X ih =>
    intro s H hw hn hS hH h
    have h1 : OpVC P n all md x s H (fun s1 H1 => OpVC P n all md y s1 H1 (fun s2 H2 => VCO P n all md (X ++ Y) s2 H2 K)) :=
      OpVC.monoR (hn x (List.mem_cons_self ..)) hS hH h fun s1 H1 hS1 hH1 h1 =>
        ih s1 H1 (fun z hz => hw z (List.mem_cons_of_mem _ hz)) (fun z hz => hn z (List.mem_cons_of_mem _ hz)) hS1 hH1 h1
    exact OpVC.swap hmd (hw x (List.mem_cons_self ..)) (hn x (List.mem_cons_self ..)) hyn hS hH h1
end
/-! ## the text's order -/
theorem Oper.wp_any {P : Program} {o : Oper} {a : Act} {w : World} {K : Act → World → Prop} {Q : Exit → Act → World → Prop} (h : o.wp P a w K (fun _ _ _ => False)) : o.wp P a w K Q := by
  unfold Oper.wp at h ⊢
  generalize (execOp a.eval o).run P w = r at h ⊢
  cases r with
  | ok m w' =>
    cases m <;> simp only [Oper.upon] at h ⊢ <;> first
      | exact h
      | exact h.mono fun e w'' he => by
          cases e with
          | returned v => exact he
          | panicked c => exact he.elim
          | outgrown => obtain ⟨_, _, hh⟩ := he; exact hh.elim
  | halt x w' => cases x <;> simp only [Oper.upon] at h ⊢
section
variable {P : Program} {n : Nat} {w0 : World} {H0 : Heap} {Q : Exit → Act → World → Prop} {K : St → Heap → Prop}
theorem blt_out {a b : Nat} (h : Nat.blt a b = true) : a < b := Nat.le_of_ble_eq_true h
def dstOk (n : Nat) (l : List Oper) : Bool := l.all fun o => match o.dst with | some d => Nat.blt d n | none => true
theorem dstOk_out {l : List Oper} (h : dstOk n l = true) : ∀ o, o ∈ l → ∀ d, o.dst = some d → d < n := fun o ho d hd => by
  have := List.all_eq_true.1 h o ho
  rw [hd] at this
  exact blt_out this
theorem VCO.wpList {all : Array Oper} (hQ : ∀ s H a w, Rel w0 H0 n s H a w → K s H → Q .normal a w) : ∀ (l : List Oper) (s : St) (H : Heap) (a : Act) (w : World), (∀ o, o ∈ l → ∀ d, o.dst = some d → d < n) →
    Rel w0 H0 n s H a w → VCO P n all .plain l s H K → wpList P all Q l a w := by
  intro l
  induction l with
  | nil => intro s H a w _ hR h; exact hQ s H a w hR h
  | cons o l ih =>
    intro s H a w hn hR h
    have hs := OpVC.sound hR (hn o (List.mem_cons_self ..)) h
    unfold Go.wpList
    rcases hs with ⟨h1, h2⟩ | ⟨h1, s', H', hR', h2⟩
    · rw [if_pos h1]
      refine .inl (Oper.wp_any (Oper.wp_mono (fun a' w' hh => ?_) h2))
      obtain ⟨s', H', hR', hk⟩ := hh
      exact ih s' H' a' w' (fun z hz => hn z (List.mem_cons_of_mem _ hz)) hR' hk
    · rw [if_neg (by rw [h1]; simp)]
      exact ih s' H' _ w (fun z hz => hn z (List.mem_cons_of_mem _ hz)) hR' h2
end
/-! ## a drawn order -/
def opAt (l : List Oper) (i : Nat) : Oper := l[i]?.getD default
/-- i comes before j in every order. -/
def befB (l : List Oper) : Nat → Nat → Nat → Bool
  | 0, _, _ => false
  | f + 1, i, j => (opAt l j).after.any fun e => Region.binds .any e && (Nat.beq e.on i || befB l f i e.on)
def pairsB (md : Mode) (l : List Oper) : List Nat → Bool
  | [] => true
  | i :: r => r.all (fun j => befB l l.length i j || Sw md l.toArray (opAt l i) (opAt l j)) && pairsB md l r
def nodupB : List Nat → Bool
  | [] => true
  | i :: r => !r.contains i && nodupB r
def okDraw (n : Nat) (md : Mode) (l : List Oper) (perm : List Nat) : Bool :=
  !md.isP && dstOk n l && Nat.beq perm.length l.length && perm.all (fun i => Nat.blt i l.length) && nodupB perm && pairsB md l perm && (List.range l.length).all (fun i => perm.contains i) &&
  (List.range l.length).all fun i => (opAt l i).after.all fun e => !Region.binds .any e || Nat.blt e.on i
section
variable {P : Program} {n : Nat} {w0 : World} {H0 : Heap} {Q : Exit → Act → World → Prop} {K : St → Heap → Prop} {md : Mode} {l : List Oper}
theorem opAt_get {i : Nat} (h : i < l.length) : l[i]? = some (opAt l i) := by
  unfold opAt; rw [List.getElem?_eq_getElem h]; rfl
theorem befB_listed {listed : Array Bool} (hdown : ∀ i, listed.getD i false = true → ∀ e, e ∈ (opAt l i).after → Region.binds .any e = true → listed.getD e.on false = true) :
    ∀ f i j, (∀ e, e ∈ (opAt l j).after → Region.binds .any e = true → listed.getD e.on false = true) → befB l f i j = true → listed.getD i false = true := by
  intro f
  induction f with
  | zero => intro i j _ h; cases h
  | succ f ih =>
    intro i j hj h
    simp only [befB, Array.any_eq_true'] at h
    obtain ⟨e, he, h⟩ := h
    simp only [Bool.and_eq_true, Bool.or_eq_true] at h
    obtain ⟨hb, h⟩ := h
    rcases h with h | h
    · have := Nat.eq_of_beq_eq_true h
      rw [← this]; exact hj e he hb
    · exact ih i e.on (hdown _ (hj e he hb)) h
theorem pairsB_out {r : List Nat} (h : pairsB md l r = true) : r.Pairwise fun i j => befB l l.length i j = true ∨ Sw md l.toArray (opAt l i) (opAt l j) = true := by
  induction r with
  | nil => exact .nil
  | cons i r ih =>
    simp only [pairsB, Bool.and_eq_true, List.all_eq_true, Bool.or_eq_true] at h
    exact .cons (fun j hj => h.1 j hj) (ih h.2)
theorem nodupB_out {r : List Nat} (h : nodupB r = true) : r.Nodup := by
  induction r with
  | nil => exact .nil
  | cons i r ih =>
    simp only [nodupB, Bool.and_eq_true, Bool.not_eq_true', List.contains_eq_mem, decide_eq_false_iff_not] at h
    exact List.nodup_cons.2 ⟨h.1, ih h.2⟩
theorem getD_set {A : Array Bool} {i j : Nat} {b : Bool} (hi : i < A.size) : (A.setIfInBounds i true).getD j b = if j = i then true else A.getD j b := by
  simp only [Array.getD_eq_getD_getElem?, Array.getElem?_setIfInBounds]
  by_cases e : i = j
  · subst e; simp [hi]
  · rw [if_neg e, if_neg (Ne.symm e)]
theorem draw_go (hmd : md ≠ .plain) (hn : ∀ o, o ∈ l → ∀ d, o.dst = some d → d < n) (hac : ∀ i, i < l.length → ∀ e, e ∈ (opAt l i).after → Region.binds .any e = true → e.on < i)
    (hQ : ∀ s H a w, Rel w0 H0 n s H a w → K s H → Q .normal a w) :
    ∀ (fuel : Nat) (r : List Nat) (listed : Array Bool) (s : St) (H : Heap) (a : Act) (w : World), (∀ i, i ∈ r ↔ i < l.length ∧ listed.getD i true = false) → r.Nodup → listed.size = l.length →
    (r.Pairwise fun i j => befB l l.length i j = true ∨ Sw md l.toArray (opAt l i) (opAt l j) = true) →
    (∀ i, listed.getD i false = true → ∀ e, e ∈ (opAt l i).after → Region.binds .any e = true → listed.getD e.on false = true) →
    r.length ≤ fuel → Rel w0 H0 n s H a w → VCO P n l.toArray md (r.map (opAt l)) s H K → wpAny P .any l.toArray Q fuel listed a w := by
  intro fuel
  induction fuel with
  | zero =>
    intro r listed s H a w hr _ hsz _ _ hlen hR h
    obtain rfl : r = [] := List.eq_nil_of_length_eq_zero (by omega)
    refine ⟨?_, hQ s H a w hR h⟩
    unfold Region.ready
    rw [List.filter_eq_nil_iff]
    intro i hi hp
    simp only [List.mem_range, List.size_toArray] at hi
    simp only [Bool.and_eq_true, Bool.not_eq_true'] at hp
    exact absurd ((hr i).2 ⟨hi, hp.1⟩) (by simp)
  | succ fuel ih =>
    intro r listed s H a w hr hnd hsz hpw hdown hlen hR h
    have hmem : ∀ i, i ∈ Region.ready .any l.toArray listed ↔ i ∈ r ∧ ∀ e, e ∈ (opAt l i).after → Region.binds .any e = true → listed.getD e.on false = true := by
      intro i
      unfold Region.ready
      rw [List.mem_filter, hr]
      simp only [List.mem_range, List.size_toArray, Bool.and_eq_true, Bool.not_eq_true', List.getElem?_toArray]
      constructor
      · rintro ⟨h1, h2, h3⟩
        rw [opAt_get h1] at h3
        simp only [Option.map_some, Option.getD_some, Array.all_eq_true', Bool.or_eq_true, Bool.not_eq_true'] at h3
        refine ⟨⟨h1, h2⟩, fun e he hb => ?_⟩
        rcases h3 e he with h4 | h4
        · rw [hb] at h4; cases h4
        · exact h4
      · rintro ⟨⟨h1, h2⟩, h3⟩
        refine ⟨h1, h2, ?_⟩
        rw [opAt_get h1]
        simp only [Option.map_some, Option.getD_some, Array.all_eq_true', Bool.or_eq_true, Bool.not_eq_true']
        intro e he
        cases hb : Region.binds .any e with
        | false => exact .inl rfl
        | true => exact .inr (h3 e he hb)
    have hlist : ∀ j, j < l.length → j ∉ r → listed.getD j false = true := by
      intro j hj hjr
      have : listed.getD j true ≠ false := fun hf => hjr ((hr j).2 ⟨hj, hf⟩)
      simp only [Array.getD_eq_getD_getElem?] at this ⊢
      rw [Array.getElem?_eq_getElem (by omega)] at this ⊢
      simpa using this
    refine ⟨fun he => ?_, fun i hi => ?_⟩
    · -- nothing is ready: all has been done
      have hr0 : r = [] := by
        cases hc : r with
        | nil => rfl
        | cons z r' =>
          exfalso
          -- the least of what is left is ready
          have key : ∀ m, ∀ i, i ≤ m → i ∈ r → False := by
            intro m
            induction m with
            | zero =>
              intro i him hir
              have hi2 : i ∈ Region.ready .any l.toArray listed := (hmem i).2 ⟨hir, fun e hee hb => by
                have := hac i ((hr i).1 hir).1 e hee hb; omega⟩
              rw [he] at hi2; cases hi2
            | succ m ihm =>
              intro i him hir
              have hil := ((hr i).1 hir).1
              have hi2 : i ∈ Region.ready .any l.toArray listed := (hmem i).2 ⟨hir, fun e hee hb => by
                have hlt := hac i hil e hee hb
                exact hlist e.on (by omega) (fun h' => ihm e.on (by omega) h')⟩
              rw [he] at hi2; cases hi2
          exact key z z (Nat.le_refl _) (by rw [hc]; exact List.mem_cons_self ..)
      subst hr0
      exact hQ s H a w hR h
    · obtain ⟨hir, hdeps⟩ := (hmem i).1 hi
      have hil := ((hr i).1 hir).1
      obtain ⟨X, Y, rfl⟩ := List.append_of_mem hir
      -- nothing ahead of i binds it
      have hsw : ∀ x, x ∈ X → Swp md l.toArray (opAt l x) (opAt l i) := by
        intro x hx
        have hp : befB l l.length x i = true ∨ Sw md l.toArray (opAt l x) (opAt l i) = true := by
          rw [List.pairwise_append] at hpw
          exact hpw.2.2 x hx i (List.mem_cons_self ..)
        rcases hp with hp | hp
        · exfalso
          have h1 := befB_listed hdown l.length x i hdeps hp
          have h2 := ((hr x).1 (List.mem_append_left _ hx)).2
          simp only [Array.getD_eq_getD_getElem?] at h1 h2
          cases hg : listed[x]? with
          | none => rw [hg] at h1; simp at h1
          | some b => rw [hg] at h1 h2; simp at h1 h2; rw [h1] at h2; cases h2
        · exact Sw.out hp
      have hnA : ∀ j, j < l.length → ∀ d, (opAt l j).dst = some d → d < n := fun j hj => hn _ (List.mem_of_getElem? (opAt_get hj))
      obtain ⟨G, hl, _⟩ := hR.fits
      have hfront := VCO.front (P := P) hmd (y := opAt l i) (Y := Y.map (opAt l)) (K := K) (hnA i hil) (X.map (opAt l)) s H
        (fun x hx => by obtain ⟨j, hj, rfl⟩ := List.mem_map.1 hx; exact hsw j hj)
        (fun x hx => by obtain ⟨j, hj, rfl⟩ := List.mem_map.1 hx; exact hnA j ((hr j).1 (List.mem_append_left _ hj)).1) ⟨a, hl.vals⟩ ⟨w, hl.den⟩ (by simpa using h)
      have hs := OpVC.sound hR (hnA i hil) hfront
      have hnd' : (X ++ Y).Nodup ∧ i ∉ X ++ Y := by
        have := (List.perm_middle (a := i) (l₁ := X) (l₂ := Y)).nodup_iff.1 hnd
        rw [List.nodup_cons] at this
        exact ⟨this.2, this.1⟩
      have next : ∀ s' H' a' w', Rel w0 H0 n s' H' a' w' → VCO P n l.toArray md (X.map (opAt l) ++ Y.map (opAt l)) s' H' K → wpAny P .any l.toArray Q fuel (listed.setIfInBounds i true) a' w' := by
        intro s' H' a' w' hR' hk
        refine ih (X ++ Y) _ s' H' a' w' (fun j => ?_) hnd'.1 (by simpa using hsz) ?_ (fun j hj e hee hb => ?_) ?_ hR' (by simpa using hk)
        · rw [getD_set (by omega)]
          by_cases e : j = i
          · subst e
            simp only [if_true]
            exact ⟨fun h' => absurd h' hnd'.2, fun h' => by cases h'.2⟩
          · rw [if_neg e, ← hr]
            simp only [List.mem_append, List.mem_cons]
            constructor
            · rintro (h' | h')
              · exact .inl h'
              · exact .inr (.inr h')
            · rintro (h' | h' | h')
              · exact .inl h'
              · exact absurd h' e
              · exact .inr h'
        · exact hpw.sublist (List.Sublist.append (List.Sublist.refl _) (List.sublist_cons_self ..))
        · rw [getD_set (by omega)] at hj ⊢
          by_cases e2 : e.on = i
          · rw [if_pos e2]
          · rw [if_neg e2]
            by_cases e3 : j = i
            · subst e3; exact hdeps e hee hb
            · rw [if_neg e3] at hj; exact hdown j hj e hee hb
        · simp only [List.length_append, List.length_cons] at hlen ⊢; omega
      unfold wpOp
      rw [show l.toArray[i]? = some (opAt l i) from by rw [List.getElem?_toArray]; exact opAt_get hil]
      simp only
      rcases hs with ⟨h1, h2⟩ | ⟨h1, s', H', hR', h2⟩
      · rw [if_pos h1]
        refine .inl (Oper.wp_any (Oper.wp_mono (fun a' w' hh => ?_) h2))
        obtain ⟨s', H', hR', hk⟩ := hh
        exact next s' H' a' w' hR' hk
      · rw [if_neg (by rw [h1]; simp)]
        exact next s' H' _ w hR' h2
theorem draw_region {id : Nat} {perm : List Nat} {s : St} {H : Heap} {a : Act} {w : World} (hf : P.follows .mixedOrders = true) (hc : okDraw n md l perm = true)
    (hQ : ∀ s H a w, Rel w0 H0 n s H a w → K s H → Q .normal a w) (hR : Rel w0 H0 n s H a w) (h : VCO P n l.toArray md (perm.map (opAt l)) s H K) : (Code.region id l.toArray true).wp P Q a w := by
  simp only [okDraw, Bool.and_eq_true, List.all_eq_true] at hc
  obtain ⟨⟨⟨⟨⟨⟨⟨h1, h2⟩, h3⟩, h4⟩, h5⟩, h6⟩, h8⟩, h7⟩ := hc
  have h1 : md ≠ .plain := fun e => by rw [e] at h1; cases h1
  have h3 := Nat.eq_of_beq_eq_true h3
  have h4 : ∀ i, i ∈ perm → i < l.length := fun i hi => blt_out (h4 i hi)
  have h5 := nodupB_out h5
  have hall : ∀ i, i < l.length → i ∈ perm := by
    intro i hi
    simpa using h8 i (List.mem_range.2 hi)
  refine wp_region_any hf ?_
  refine draw_go h1 (dstOk_out h2) (fun i hi e he hb => ?_) hQ l.toArray.size perm _ s H a _ (fun i => ?_) h5 (by simp) (pairsB_out h6) (fun i hi => ?_) (by simp [h3]) ?_ h
  · have := h7 i (List.mem_range.2 hi)
    rw [Array.all_eq_true'] at this
    have := this e he
    simp only [Bool.or_eq_true, Bool.not_eq_true'] at this
    rcases this with h' | h'
    · rw [hb] at h'; cases h'
    · exact blt_out h'
  · constructor
    · intro hi
      refine ⟨h4 i hi, ?_⟩
      simp [Array.getD_eq_getD_getElem?, h4 i hi]
    · exact fun hi => hall i hi.1
  · exfalso
    simp only [Array.getD_eq_getD_getElem?, Array.getElem?_replicate] at hi
    split at hi <;> simp at hi
  · obtain ⟨G, hl, hb⟩ := hR.fits
    exact ⟨hR.defers, ⟨G, ⟨hl.vals, hl.boxes, hl.inj, hl.refs, hl.den⟩, hb⟩, ⟨hR.fx.os, hR.fx.tape, hR.fx.output, hR.fx.size, hR.fx.keep, hR.fx.form⟩⟩
end
end Go.Eng
