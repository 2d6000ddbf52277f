/- Linear forms, what follows from them, and the programs that decide it: plain. -/
import Derived.Test.YtbbjgagpbffooaaGreatA10
set_option linter.unusedVariables false
namespace Lp
/-- A linear form: the constant; the terms, each a variable and its coefficient. -/
structure Lin where
  c : Int
  ts : List (Int × Int)
def lin0 : Lin := ⟨0, []⟩
def coefT : List (Int × Int) → Int → Int
  | [], _ => 0
  | t :: l, v => if t.1 = v then t.2 else coefT l v
def Lin.coef (l : Lin) (v : Int) : Int := coefT l.ts v
def Lin.vars (l : Lin) : List Int := l.ts.map (·.1)
def nth (fs : List Lin) (i : Nat) : Lin := fs.getD i lin0
theorem nth_get {fs : List Lin} {i : Nat} {f : Lin} (h : fs[i]? = some f) : nth fs i = f := by simp [nth, List.getD, h]
theorem coefT_out : ∀ {l : List (Int × Int)} {v : Int}, ¬ v ∈ l.map (·.1) → coefT l v = 0
  | [], _, _ => rfl
  | t :: l, v, h => by
    simp only [List.map_cons, List.mem_cons, not_or] at h
    simp only [coefT]
    rw [if_neg (fun e => h.1 e.symm)]
    exact coefT_out h.2
theorem coef_out {f : Lin} {v : Int} (h : ¬ v ∈ f.vars) : f.coef v = 0 := coefT_out h
theorem coefT_mem : ∀ {l : List (Int × Int)} {v : Int}, coefT l v = 0 ∨ ∃ t, t ∈ l ∧ t.1 = v ∧ coefT l v = t.2
  | [], _ => .inl rfl
  | t :: l, v => by
    simp only [coefT]
    split
    · exact .inr ⟨t, by simp, by assumption, rfl⟩
    · rcases coefT_mem (l := l) (v := v) with h | ⟨u, h1, h2, h3⟩
      · exact .inl h
      · exact .inr ⟨u, by simp [h1], h2, h3⟩
structure LinOk (l : Lin) : Prop where
  const : -1048576 ≤ l.c ∧ l.c ≤ 1048576
  len : l.ts.length ≤ 16
  term : ∀ (i : Nat) (t : Int × Int), l.ts[i]? = some t → t.2 ≠ 0 ∧ -1048576 ≤ t.2 ∧ t.2 ≤ 1048576 ∧ -1 ≤ t.1 ∧ t.1 < 3000
  asc : ∀ (i : Nat) (a b : Int × Int), l.ts[i]? = some a → l.ts[i + 1]? = some b → a.1 < b.1
theorem LinOk.coef_le {f : Lin} (h : LinOk f) (v : Int) : -1048576 ≤ f.coef v ∧ f.coef v ≤ 1048576 := by
  rcases coefT_mem (l := f.ts) (v := v) with e | ⟨t, h1, h2, h3⟩
  · unfold Lin.coef; rw [e]; decide
  · obtain ⟨i, hi⟩ := List.getElem?_of_mem h1
    have := h.term i t hi
    unfold Lin.coef; rw [h3]; exact ⟨this.2.1, this.2.2.1⟩
theorem lin0_ok : LinOk lin0 := ⟨by decide, by decide, fun i t h => by simp [lin0] at h, fun i a b h => by simp [lin0] at h⟩
theorem asc_of : ∀ {l : List (Int × Int)}, (∀ (i : Nat) (a b : Int × Int), l[i]? = some a → l[i + 1]? = some b → a.1 < b.1) → (l.map (·.1)).Pairwise (· < ·)
  | [], _ => List.Pairwise.nil
  | [t], _ => by simp
  | t :: u :: l, h => by
    have ih := asc_of (l := u :: l) fun i a b h1 h2 => h (i + 1) a b (by simpa using h1) (by simpa using h2)
    have h0 := h 0 t u rfl rfl
    rw [List.map_cons]
    refine List.pairwise_cons.2 ⟨fun v hv => ?_, ih⟩
    rw [List.map_cons] at hv ih
    rcases List.mem_cons.1 hv with rfl | hv
    · exact h0
    · have := (List.pairwise_cons.1 ih).1 v hv; omega
theorem LinOk.vars_asc {f : Lin} (h : LinOk f) : f.vars.Pairwise (· < ·) := asc_of h.asc
/-! ## ascending lists -/
def insA : List Int → Int → List Int
  | [], x => [x]
  | y :: l, x => if y < x then y :: insA l x else if y = x then y :: l else x :: y :: l
def Asc (l : List Int) : Prop := l.Pairwise (· < ·)
theorem mem_insA {x v : Int} : ∀ {l : List Int}, v ∈ insA l x ↔ v = x ∨ v ∈ l
  | [] => by simp [insA]
  | y :: l => by
    unfold insA
    split
    · rw [List.mem_cons, mem_insA, List.mem_cons]
      constructor
      · rintro (h | h | h) <;> simp [h]
      · rintro (h | h | h) <;> simp [h]
    · split
      · rename_i e; rw [List.mem_cons, e]
        constructor
        · rintro (h | h) <;> simp [h]
        · rintro (h | h | h) <;> simp [h]
      · rw [List.mem_cons]
theorem asc_insA {x : Int} : ∀ {l : List Int}, Asc l → Asc (insA l x)
  | [], _ => by simp [insA, Asc]
  | y :: l, h => by
    have h1 := List.pairwise_cons.1 h
    unfold insA
    split
    · rename_i hy
      refine List.pairwise_cons.2 ⟨fun v hv => ?_, asc_insA h1.2⟩
      rcases mem_insA.1 hv with rfl | hv
      · exact hy
      · exact h1.1 v hv
    · split
      · exact h
      · refine List.pairwise_cons.2 ⟨fun v hv => ?_, h⟩
        rcases List.mem_cons.1 hv with rfl | hv
        · omega
        · have := h1.1 v hv; omega
theorem asc_unique : ∀ {l k : List Int}, Asc l → Asc k → (∀ v, v ∈ l ↔ v ∈ k) → l = k
  | [], [], _, _, _ => rfl
  | [], y :: k, _, _, h => by have := (h y).2 (by simp); cases this
  | x :: l, [], _, _, h => by have := (h x).1 (by simp); cases this
  | x :: l, y :: k, hl, hk, h => by
    have h1 := List.pairwise_cons.1 hl
    have h2 := List.pairwise_cons.1 hk
    have e : x = y := by
      have a := (h x).1 (by simp)
      have b := (h y).2 (by simp)
      rcases List.mem_cons.1 a with a | a
      · exact a
      · rcases List.mem_cons.1 b with b | b
        · exact b.symm
        · have := h1.1 y b; have := h2.1 x a; omega
    subst e
    congr 1
    refine asc_unique h1.2 h2.2 fun v => ?_
    have h3 := h v
    simp only [List.mem_cons] at h3
    constructor
    · intro hv
      have h4 := h1.1 v hv
      rcases h3.1 (.inr hv) with e | e
      · omega
      · exact e
    · intro hv
      have h4 := h2.1 v hv
      rcases h3.2 (.inr hv) with e | e
      · omega
      · exact e
theorem insA_len (x : Int) : ∀ l : List Int, (insA l x).length ≤ l.length + 1
  | [] => by simp [insA]
  | y :: l => by
    unfold insA
    split
    · have := insA_len x l; simp; omega
    · split <;> simp
theorem fold_len : ∀ (k l : List Int), (k.foldl insA l).length ≤ l.length + k.length
  | [], l => by simp
  | x :: k, l => by have := fold_len k (insA l x); have := insA_len x l; simp; omega
theorem mem_fold {v : Int} : ∀ {k l : List Int}, v ∈ k.foldl insA l ↔ v ∈ l ∨ v ∈ k
  | [], l => by simp
  | x :: k, l => by
    rw [List.foldl_cons, mem_fold, mem_insA, List.mem_cons]
    constructor
    · rintro ((h | h) | h) <;> simp [h]
    · rintro (h | h | h) <;> simp [h]
theorem asc_fold : ∀ {k l : List Int}, Asc l → Asc (k.foldl insA l)
  | [], l, h => h
  | x :: k, l, h => asc_fold (k := k) (asc_insA h)
def allVars (fs : List Lin) : List Int := fs.flatMap Lin.vars
/-- The variables that forms mention, ascending. -/
def ment (fs : List Lin) : List Int := (allVars fs).foldl insA []
theorem mem_ment {fs : List Lin} {v : Int} : v ∈ ment fs ↔ ∃ f, f ∈ fs ∧ v ∈ f.vars := by
  unfold ment allVars; rw [mem_fold, List.mem_flatMap]; simp
theorem asc_ment (fs : List Lin) : Asc (ment fs) := asc_fold List.Pairwise.nil
theorem ment_unique {fs : List Lin} {l : List Int} (h : Asc l) (hm : ∀ v, v ∈ l ↔ v ∈ allVars fs) : l = ment fs :=
  asc_unique h (asc_ment fs) fun v => by rw [hm v]; unfold ment; rw [mem_fold]; simp
theorem ment_len (fs : List Lin) : (ment fs).length ≤ (allVars fs).length := by have := fold_len (allVars fs) []; simpa [ment] using this
theorem allVars_len {k : Nat} : ∀ {fs : List Lin}, (∀ f, f ∈ fs → f.ts.length ≤ k) → (allVars fs).length ≤ fs.length * k
  | [], _ => by simp [allVars]
  | f :: fs, h => by
    have h1 := h f (by simp)
    have h2 := allVars_len (fs := fs) fun g hg => h g (by simp [hg])
    simp only [allVars, List.flatMap_cons, List.length_append, List.length_cons] at h2 ⊢
    have : f.vars.length = f.ts.length := by simp [Lin.vars]
    rw [Nat.add_mul]; omega
theorem vars_ment {fs : List Lin} {i : Nat} {f : Lin} (h : fs[i]? = some f) {v : Int} (hv : v ∈ f.vars) : v ∈ ment fs := mem_ment.2 ⟨f, List.mem_of_getElem? h, hv⟩
structure FactsOk (fs : List Lin) : Prop where
  len : fs.length ≤ 200
  ok : ∀ (i : Nat) (f : Lin), fs[i]? = some f → LinOk f
  vars : (ment fs).length ≤ 100
/-! ## combinations -/
def comb (fs : List Lin) (x : Nat → Rat) (v : Int) : Rat := sumN fs.length (fun i => x i * (((nth fs i).coef v : Int) : Rat))
def combC (fs : List Lin) (x : Nat → Rat) : Rat := sumN fs.length (fun i => x i * (((nth fs i).c : Int) : Rat))
def NonN (n : Nat) (x : Nat → Rat) : Prop := ∀ i, i < n → 0 ≤ x i
/-- The multipliers x prove g from fs. -/
structure Ent (fs : List Lin) (g : Lin) (x : Nat → Rat) : Prop where
  pos : NonN fs.length x
  coef : ∀ v, comb fs x v = ((g.coef v : Int) : Rat)
  const : combC fs x ≤ ((g.c : Int) : Rat)
structure Ref (fs : List Lin) (x : Nat → Rat) : Prop where
  pos : NonN fs.length x
  coef : ∀ v, comb fs x v = 0
  const : combC fs x < 0
def Imp (fs : List Lin) (g : Lin) : Prop := (∃ x, Ent fs g x) ∨ ∃ x, Ref fs x
theorem comb_out {fs : List Lin} {x : Nat → Rat} {v : Int} (h : ¬ v ∈ ment fs) : comb fs x v = 0 := by
  refine sumN_eq0 fun i hi => ?_
  have h0 : fs[i]? = some (nth fs i) := by rw [nth, List.getD, List.getElem?_eq_getElem hi]; rfl
  rw [coef_out fun hv => h (vars_ment h0 hv)]; grind
theorem nth_some {fs : List Lin} {i : Nat} (hi : i < fs.length) : fs[i]? = some (nth fs i) := by rw [nth, List.getD, List.getElem?_eq_getElem hi]; rfl
theorem fn_map {α : Type} {d : α} (h : α → Rat) {l : List α} {j : Nat} (hj : j < l.length) : fn (l.map h) j = h (l.getD j d) := by
  simp [fn, List.getD, List.getElem?_map, List.getElem?_eq_getElem hj]
/-- The program that looks for multipliers. -/
def cmbP (fs : List Lin) (vs : List Int) (g : Lin) (b : Int) : Prg := ⟨List.replicate fs.length false, vs.map (fun v => (fs.map (fun f => ((f.coef v : Int) : Rat)), (2 : Int), ((g.coef v : Int) : Rat))) ++ [(fs.map (fun f => ((f.c : Int) : Rat)), (1 : Int), (b : Rat))]⟩
theorem cmb_ok {fs : List Lin} {vs : List Int} (g : Lin) (b : Int) (h1 : fs.length ≤ 400) (h2 : vs.length ≤ 799) : (cmbP fs vs g b).Ok := by
  refine ⟨by simp [cmbP]; exact h1, by simp [cmbP]; omega, fun i r hr => ?_⟩
  simp only [cmbP] at hr
  by_cases hi : i < vs.length
  · rw [List.getElem?_append_left (by simpa using hi), List.getElem?_map, List.getElem?_eq_getElem hi] at hr
    cases hr
    exact ⟨by simp [cmbP], .inr (.inl rfl)⟩
  · rw [List.getElem?_append_right (by simpa using hi)] at hr
    have := (List.getElem?_eq_some_iff.1 hr).1
    simp at this
    rw [show i - (vs.map (fun v => (fs.map (fun f => ((f.coef v : Int) : Rat)), (2 : Int), ((g.coef v : Int) : Rat)))).length = 0 by simp; omega] at hr
    cases hr
    exact ⟨by simp [cmbP], .inl rfl⟩
theorem cmb_row1 {fs : List Lin} {vs : List Int} {g : Lin} {b : Int} {i : Nat} {v : Int} (h : vs[i]? = some v) : (cmbP fs vs g b).row i = (fs.map (fun f => ((f.coef v : Int) : Rat)), (2 : Int), ((g.coef v : Int) : Rat)) := by
  have hi := (List.getElem?_eq_some_iff.1 h).1
  refine Prg.row_get ?_
  simp only [cmbP]
  rw [List.getElem?_append_left (by simpa using hi), List.getElem?_map, h]; rfl
theorem cmb_row2 {fs : List Lin} {vs : List Int} {g : Lin} {b : Int} : (cmbP fs vs g b).row vs.length = (fs.map (fun f => ((f.c : Int) : Rat)), (1 : Int), (b : Rat)) := by
  refine Prg.row_get ?_
  simp only [cmbP]
  rw [List.getElem?_append_right (by simp)]; simp
theorem cmb_meets {fs : List Lin} {vs : List Int} {g : Lin} {b : Int} {x : Nat → Rat} : (cmbP fs vs g b).lp.Meets 1 x ↔ NonN fs.length x ∧ (∀ v, v ∈ vs → comb fs x v = ((g.coef v : Int) : Rat)) ∧ combC fs x ≤ (b : Rat) := by
  have hn : (cmbP fs vs g b).lp.n = fs.length := by simp [Prg.lp, cmbP]
  have hm : (cmbP fs vs g b).lp.m = vs.length + 1 := by simp [Prg.lp, cmbP]
  have hfr : ∀ j, (cmbP fs vs g b).lp.free j = false := fun j => by
    simp only [Prg.lp, cmbP, List.getD, List.getElem?_replicate]
    split <;> rfl
  have hd : ∀ h : Lin → Rat, dotN fs.length (fn (fs.map h)) x = sumN fs.length (fun i => x i * h (nth fs i)) := fun h =>
    sumN_congr fun j hj => by rw [fn_map (d := lin0) h hj]; exact Rat.mul_comm _ _
  have hr1 : ∀ i v, vs[i]? = some v → (relOk ((cmbP fs vs g b).lp.rel i) (dotN (cmbP fs vs g b).lp.n ((cmbP fs vs g b).lp.a i) x - (cmbP fs vs g b).lp.b i * 1) ↔ comb fs x v = ((g.coef v : Int) : Rat)) := fun i v hv => by
    rw [hn]
    show relOk ((cmbP fs vs g b).row i).2.1 (dotN fs.length (fn ((cmbP fs vs g b).row i).1) x - ((cmbP fs vs g b).row i).2.2 * 1) ↔ _
    rw [cmb_row1 hv, hd]
    constructor
    · intro h
      have := h.2.1 rfl
      show sumN _ _ = _
      grind
    · intro h
      refine ⟨fun e => absurd e (show ¬ (2 : Int) = 1 by decide), fun _ => ?_, fun e => absurd e (show ¬ (2 : Int) = 3 by decide)⟩
      have h' : sumN fs.length (fun i => x i * (((nth fs i).coef v : Int) : Rat)) = ((g.coef v : Int) : Rat) := h
      show sumN fs.length (fun i => x i * (((nth fs i).coef v : Int) : Rat)) - ((g.coef v : Int) : Rat) * 1 = 0
      grind
  have hr2 : relOk ((cmbP fs vs g b).lp.rel vs.length) (dotN (cmbP fs vs g b).lp.n ((cmbP fs vs g b).lp.a vs.length) x - (cmbP fs vs g b).lp.b vs.length * 1) ↔ combC fs x ≤ (b : Rat) := by
    rw [hn]
    show relOk ((cmbP fs vs g b).row vs.length).2.1 (dotN fs.length (fn ((cmbP fs vs g b).row vs.length).1) x - ((cmbP fs vs g b).row vs.length).2.2 * 1) ↔ _
    rw [cmb_row2, hd]
    constructor
    · intro h
      have := h.1 rfl
      show sumN _ _ ≤ _
      grind
    · intro h
      refine ⟨fun _ => ?_, fun e => absurd e (show ¬ (1 : Int) = 2 by decide), fun e => absurd e (show ¬ (1 : Int) = 3 by decide)⟩
      have h' : sumN fs.length (fun i => x i * (((nth fs i).c : Int) : Rat)) ≤ (b : Rat) := h
      show sumN fs.length (fun i => x i * (((nth fs i).c : Int) : Rat)) - (b : Rat) * 1 ≤ 0
      grind
  constructor
  · intro h
    refine ⟨fun i hi => h.1 i (by rw [hn]; exact hi) (hfr i), fun v hv => ?_, ?_⟩
    · obtain ⟨i, hi⟩ := List.getElem?_of_mem hv
      exact (hr1 i v hi).1 (h.2 i (by rw [hm]; have := (List.getElem?_eq_some_iff.1 hi).1; omega))
    · exact hr2.1 (h.2 vs.length (by rw [hm]; omega))
  · rintro ⟨h1, h2, h3⟩
    refine ⟨fun j hj _ => h1 j (by rw [hn] at hj; exact hj), fun i hi => ?_⟩
    rw [hm] at hi
    by_cases e : i < vs.length
    · exact (hr1 i _ (List.getElem?_eq_getElem e)).2 (h2 _ (List.getElem_mem e))
    · obtain rfl : i = vs.length := by omega
      exact hr2.2 h3
theorem ent_of_cmb {fs : List Lin} {g : Lin} {x : Nat → Rat} (h : (cmbP fs (ment (fs ++ [g])) g g.c).lp.Meets 1 x) : Ent fs g x := by
  obtain ⟨h1, h2, h3⟩ := cmb_meets.1 h
  refine ⟨h1, fun v => ?_, h3⟩
  by_cases hv : v ∈ ment (fs ++ [g])
  · exact h2 v hv
  · rw [comb_out fun h => hv ?_, coef_out fun h => hv (mem_ment.2 ⟨g, by simp, h⟩)]
    · rfl
    · obtain ⟨f, h4, h5⟩ := mem_ment.1 h
      exact mem_ment.2 ⟨f, by simp [h4], h5⟩
theorem Ent.cmb {fs : List Lin} {g : Lin} {x : Nat → Rat} (h : Ent fs g x) (vs : List Int) : (cmbP fs vs g g.c).lp.Meets 1 x :=
  cmb_meets.2 ⟨h.pos, fun v _ => h.coef v, h.const⟩
theorem coef0 (v : Int) : lin0.coef v = 0 := rfl
theorem ref_of_cmb {fs : List Lin} {x : Nat → Rat} (h : (cmbP fs (ment (fs ++ [lin0])) lin0 (-1)).lp.Meets 1 x) : Ref fs x := by
  obtain ⟨h1, h2, h3⟩ := cmb_meets.1 h
  have h9 : ((-1 : Int) : Rat) = -1 := rfl
  refine ⟨h1, fun v => ?_, by rw [h9] at h3; grind⟩
  by_cases hv : v ∈ ment fs
  · have := h2 v (by obtain ⟨f, h4, h5⟩ := mem_ment.1 hv; exact mem_ment.2 ⟨f, by simp [h4], h5⟩)
    rw [this]; rfl
  · exact comb_out hv
theorem comb_smul (fs : List Lin) (x : Nat → Rat) (k : Rat) (v : Int) : comb fs (fun i => k * x i) v = k * comb fs x v := by
  unfold comb; rw [← sumN_mul]; exact sumN_congr fun i _ => by grind
theorem combC_smul (fs : List Lin) (x : Nat → Rat) (k : Rat) : combC fs (fun i => k * x i) = k * combC fs x := by
  unfold combC; rw [← sumN_mul]; exact sumN_congr fun i _ => by grind
theorem Ref.cmb {fs : List Lin} {x : Nat → Rat} (h : Ref fs x) (vs : List Int) : ∃ y, (cmbP fs vs lin0 (-1)).lp.Meets 1 y := by
  have h0 := h.const
  have hk : 0 < (- combC fs x)⁻¹ := Rat.inv_pos.2 (by grind)
  refine ⟨fun i => (- combC fs x)⁻¹ * x i, cmb_meets.2 ⟨fun i hi => Rat.mul_nonneg (by grind) (h.pos i hi), fun v _ => ?_, ?_⟩⟩
  · rw [comb_smul, h.coef v, coef0]; grind
  · rw [combC_smul]
    have : (- combC fs x)⁻¹ * (- combC fs x) = 1 := Rat.inv_mul_cancel _ (by grind)
    have h9 : ((-1 : Int) : Rat) = -1 := rfl
    rw [h9]; grind
/-! ## the program over the variables -/
def minP (fs : List Lin) (vs : List Int) : Prg := ⟨vs.map (fun _ => true), fs.map (fun f => (vs.map (fun v => ((f.coef v : Int) : Rat)), (3 : Int), ((-f.c : Int) : Rat)))⟩
def minC (g : Lin) (vs : List Int) : List Rat := vs.map (fun v => ((g.coef v : Int) : Rat))
theorem minP_ok {fs : List Lin} {vs : List Int} (h1 : fs.length ≤ 800) (h2 : vs.length ≤ 400) : (minP fs vs).Ok := by
  refine ⟨by simp [minP]; exact h2, by simp [minP]; exact h1, fun i r hr => ?_⟩
  simp only [minP, List.getElem?_map] at hr
  cases hf : fs[i]? with
  | none => rw [hf] at hr; cases hr
  | some f => rw [hf] at hr; cases hr; exact ⟨by simp [minP], .inr (.inr rfl)⟩
theorem minP_row {fs : List Lin} {vs : List Int} {i : Nat} (hi : i < fs.length) : (minP fs vs).row i = (vs.map (fun v => (((nth fs i).coef v : Int) : Rat)), (3 : Int), ((-(nth fs i).c : Int) : Rat)) := by
  refine Prg.row_get ?_
  simp only [minP, List.getElem?_map]
  rw [nth_some hi]; rfl
section
variable {fs : List Lin} {vs : List Int} {g : Lin}
theorem minP_n : (minP fs vs).lp.n = vs.length := by simp [Prg.lp, minP]
theorem minP_m : (minP fs vs).lp.m = fs.length := by simp [Prg.lp, minP]
theorem minP_free {j : Nat} (hj : j < vs.length) : (minP fs vs).lp.free j = true := by
  simp [Prg.lp, minP, List.getD, List.getElem?_map, List.getElem?_eq_getElem hj]
theorem minP_a {i j : Nat} (hi : i < fs.length) (hj : j < vs.length) : (minP fs vs).lp.a i j = (((nth fs i).coef (vs.getD j 0) : Int) : Rat) := by
  show fn ((minP fs vs).row i).1 j = _
  rw [minP_row hi, fn_map (d := (0 : Int)) _ hj]
theorem minP_b {i : Nat} (hi : i < fs.length) : (minP fs vs).lp.b i = - (((nth fs i).c : Int) : Rat) := by
  show ((minP fs vs).row i).2.2 = _
  rw [minP_row hi]
  show ((-(nth fs i).c : Int) : Rat) = _
  rw [Rat.intCast_neg]
theorem minP_rel {i : Nat} (hi : i < fs.length) : (minP fs vs).lp.rel i = 3 := by
  show ((minP fs vs).row i).2.1 = _
  rw [minP_row hi]
theorem minP_col (y : Nat → Rat) {j : Nat} (hj : j < vs.length) : (minP fs vs).lp.colsum y j = comb fs y (vs.getD j 0) := by
  unfold LP.colsum comb
  rw [minP_m]
  exact sumN_congr fun i hi => by rw [minP_a hi hj]
theorem minP_bnd (y : Nat → Rat) : (minP fs vs).lp.bndsum y = - combC fs y := by
  unfold LP.bndsum combC
  rw [minP_m, ← sumN_neg]
  exact sumN_congr fun i hi => by rw [minP_b hi]; grind
theorem minP_signed {y : Nat → Rat} : (minP fs vs).lp.Signed y ↔ NonN fs.length y := by
  constructor
  · intro h i hi
    exact (h i (by rw [minP_m]; exact hi)).1 (minP_rel hi)
  · intro h i hi
    rw [minP_m] at hi
    exact ⟨fun _ => h i hi, fun e => by rw [minP_rel hi] at e; exact absurd e (by decide)⟩
theorem vs_get {v : Int} (h : v ∈ vs) : ∃ j, j < vs.length ∧ vs.getD j 0 = v := by
  obtain ⟨j, hj⟩ := List.getElem?_of_mem h
  exact ⟨j, (List.getElem?_eq_some_iff.1 hj).1, by simp [List.getD, hj]⟩
theorem min_inf {y : Nat → Rat} (hv : ∀ v, v ∈ ment fs → v ∈ vs) (h : (minP fs vs).lp.CertInf y) : Ref fs y := by
  refine ⟨minP_signed.1 h.signed, fun v => ?_, by have := h.pos; rw [minP_bnd] at this; grind⟩
  by_cases hm : v ∈ ment fs
  · obtain ⟨j, hj, e⟩ := vs_get (hv v hm)
    have h1 := h.cols j (by rw [minP_n]; exact hj)
    rw [minP_col y hj, e] at h1
    have := h1.2 (minP_free hj)
    grind
  · exact comb_out hm
theorem Ref.inf {y : Nat → Rat} (h : Ref fs y) : (minP fs vs).lp.CertInf y := by
  refine ⟨minP_signed.2 h.pos, fun j hj => ?_, by rw [minP_bnd]; have := h.const; grind⟩
  rw [minP_n] at hj
  rw [minP_col y hj, h.coef]
  exact ⟨Rat.le_refl, fun _ => Rat.le_refl⟩
theorem minC_at {j : Nat} (hj : j < vs.length) : fn (minC g vs) j = ((g.coef (vs.getD j 0) : Int) : Rat) := fn_map (d := (0 : Int)) _ hj
theorem min_opt {x y : Nat → Rat} (hv : ∀ v, v ∈ ment fs → v ∈ vs) (hg : ∀ v, v ∈ g.vars → v ∈ vs) (h : (minP fs vs).lp.CertOpt (fn (minC g vs)) x y) :
    NonN fs.length y ∧ (∀ v, comb fs y v = ((g.coef v : Int) : Rat)) ∧ combC fs y = - dotN vs.length (fn (minC g vs)) x := by
  refine ⟨minP_signed.1 h.signed, fun v => ?_, by have := h.eq; rw [minP_bnd, minP_n] at this; grind⟩
  by_cases hm : v ∈ vs
  · obtain ⟨j, hj, e⟩ := vs_get hm
    have h1 := h.cols j (by rw [minP_n]; exact hj)
    rw [minP_col y hj, e, minC_at hj, e] at h1
    have := h1.2 (minP_free hj)
    grind
  · rw [comb_out fun h => hm (hv v h), coef_out fun h => hm (hg v h)]; rfl
theorem min_below (hok : (minP fs vs).lp.Valid) {x y : Nat → Rat} (hx : (minP fs vs).lp.Meets 1 x) (hy : NonN fs.length y) (hc : ∀ v, comb fs y v = ((g.coef v : Int) : Rat)) : - combC fs y ≤ dotN vs.length (fn (minC g vs)) x := by
  have := LP.below (c := fn (minC g vs)) hok hx (minP_signed.2 hy) fun j hj => by
    rw [minP_n] at hj
    rw [minP_col y hj, minC_at hj, hc]
    exact ⟨by grind, fun _ => by grind⟩
  rwa [minP_bnd, minP_n] at this
/-- What the least value tells. -/
theorem imp_iff {S : Soln} (hv : ∀ v, v ∈ ment fs → v ∈ vs) (hg : ∀ v, v ∈ g.vars → v ∈ vs) (h : Chk (minP fs vs) (minC g vs) S) :
    (Imp fs g ↔ S.status = 2 ∨ (S.status = 1 ∧ 0 ≤ S.value + ((g.c : Int) : Rat))) ∧ ((∃ x, Ref fs x) ↔ S.status = 2) := by
  have hok := h.ok.1.valid
  have hfl : (minP fs vs).free.length = vs.length := by simp [minP]
  have href : (∃ x, Ref fs x) ↔ S.status = 2 := by
    constructor
    · rintro ⟨x, hx⟩
      have hi := (hx.inf (vs := vs)).isInf hok
      rcases h.sem with ⟨_, h2⟩ | ⟨h1, _⟩ | ⟨_, h2, _⟩
      · exact (LP.opt_inf h2 hi).elim
      · exact h1
      · exact (LP.unb_inf h2 hi).elim
    · intro e
      exact ⟨_, min_inf hv (h.at2 e).2.2.2.2.cert⟩
  refine ⟨⟨?_, ?_⟩, href⟩
  · rintro (⟨y, hy⟩ | hr)
    · rcases h.sem with ⟨h1, _⟩ | ⟨h1, _⟩ | ⟨h1, h2, _⟩
      · refine .inr ⟨h1, ?_⟩
        obtain ⟨_, h2, h3⟩ := h.at1 h1
        have h4 := min_below hok h2.feas.meets hy.pos hy.coef
        rw [hfl] at h3
        have h5 := hy.const
        rw [h3]; grind
      · exact .inl h1
      · obtain ⟨x, hx, hlt⟩ := h2.2 (- combC fs y)
        have h4 := min_below hok hx hy.pos hy.coef
        rw [minP_n] at hlt
        grind
    · exact .inl (href.1 hr)
  · rintro (h1 | ⟨h1, h0⟩)
    · exact .inr (href.2 h1)
    · obtain ⟨_, h2, h3⟩ := h.at1 h1
      obtain ⟨k1, k2, k3⟩ := min_opt hv hg h2.cert
      rw [hfl] at h3
      exact .inl ⟨_, k1, k2, by rw [k3, ← h3]; grind⟩
end
/-! ## values -/
def evalT (a : Int → Rat) : List (Int × Int) → Rat
  | [] => 0
  | t :: l => ((t.2 : Int) : Rat) * a t.1 + evalT a l
def Lin.eval (f : Lin) (a : Int → Rat) : Rat := ((f.c : Int) : Rat) + evalT a f.ts
theorem sumN_at {vs : List Int} (hn : vs.Nodup) {v : Int} (hv : v ∈ vs) (q : Rat) : sumN vs.length (fun j => if vs.getD j 0 = v then q else 0) = q := by
  obtain ⟨k, hk, e⟩ := vs_get hv
  rw [sumN_single hk _ fun i hi hne => ?_]
  · rw [if_pos e]
  · rw [if_neg]
    intro e2
    have h1 : vs[i]? = some (vs.getD i 0) := by rw [List.getD, List.getElem?_eq_getElem hi]; rfl
    have h2 : vs[k]? = some (vs.getD k 0) := by rw [List.getD, List.getElem?_eq_getElem hk]; rfl
    rw [e2] at h1; rw [e] at h2
    have h3 := (List.getElem?_eq_some_iff.1 h1).2
    have h4 := (List.getElem?_eq_some_iff.1 h2).2
    rcases Nat.lt_or_gt_of_ne hne with h5 | h5
    · exact List.pairwise_iff_getElem.1 hn i k hi hk h5 (h3.trans h4.symm)
    · exact List.pairwise_iff_getElem.1 hn k i hk hi h5 (h4.trans h3.symm)
theorem evalT_dot {vs : List Int} (hn : vs.Nodup) (a : Int → Rat) : ∀ {l : List (Int × Int)}, (l.map (·.1)).Pairwise (· < ·) → (∀ v, v ∈ l.map (·.1) → v ∈ vs) →
    evalT a l = sumN vs.length (fun j => ((coefT l (vs.getD j 0) : Int) : Rat) * a (vs.getD j 0))
  | [], _, _ => by
    rw [evalT, sumN_eq0 fun i _ => ?_]
    show ((0 : Int) : Rat) * _ = 0
    exact Rat.zero_mul _
  | t :: l, h, hv => by
    rw [List.map_cons] at h hv
    have h1 := List.pairwise_cons.1 h
    have ih := evalT_dot hn a h1.2 fun v hm => hv v (by simp [hm])
    have hs := sumN_at hn (hv t.1 (by simp)) (((t.2 : Int) : Rat) * a t.1)
    rw [evalT, ih, ← hs, ← sumN_add]
    refine sumN_congr fun j _ => ?_
    simp only [coefT]
    by_cases e : t.1 = vs.getD j 0
    · rw [if_pos e.symm, if_pos e]
      have : coefT l (vs.getD j 0) = 0 := coefT_out fun hm => by have := h1.1 _ hm; omega
      rw [this, ← e]
      have h0 : ((0 : Int) : Rat) = 0 := rfl
      rw [h0]; grind
    · rw [if_neg (fun e2 => e e2.symm), if_neg e]; grind
theorem eval_dot {vs : List Int} (hn : vs.Nodup) (a : Int → Rat) {f : Lin} (hf : LinOk f) (hv : ∀ v, v ∈ f.vars → v ∈ vs) : f.eval a = ((f.c : Int) : Rat) + sumN vs.length (fun j => ((f.coef (vs.getD j 0) : Int) : Rat) * a (vs.getD j 0)) := by
  unfold Lin.eval; rw [evalT_dot hn a hf.vars_asc hv]; rfl
theorem asc_nodup {l : List Int} (h : Asc l) : l.Nodup := List.Pairwise.imp (fun h e => by omega) h
/-- A vector that meets the rows is an assignment that satisfies the facts. -/
theorem min_model {fs : List Lin} (hf : ∀ (i : Nat) (f : Lin), fs[i]? = some f → LinOk f) {vs : List Int} (hn : vs.Nodup) (hv : ∀ v, v ∈ ment fs → v ∈ vs) {x : Nat → Rat} {a : Int → Rat} (ha : ∀ j, j < vs.length → a (vs.getD j 0) = x j)
    (h : (minP fs vs).lp.Meets 1 x) {i : Nat} (hi : i < fs.length) : 0 ≤ (nth fs i).eval a := by
  have h0 := nth_some hi
  have h1 := h.2 i (by rw [minP_m]; exact hi)
  rw [minP_rel hi, minP_n] at h1
  have h2 := h1.2.2 rfl
  rw [minP_b hi] at h2
  have h3 : dotN vs.length ((minP fs vs).lp.a i) x = sumN vs.length (fun j => (((nth fs i).coef (vs.getD j 0) : Int) : Rat) * a (vs.getD j 0)) := sumN_congr fun j hj => by rw [minP_a hi hj, ha j hj]
  rw [h3] at h2
  rw [eval_dot hn a (hf i _ h0) fun v h => hv v (vars_ment h0 h)]
  grind
end Lp
