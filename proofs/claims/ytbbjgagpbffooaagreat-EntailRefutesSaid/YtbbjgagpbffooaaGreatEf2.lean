/- Package amortcostlaw24: sane; what the functions of entail give for valid arguments. -/
import Derived.Test.YtbbjgagpbffooaaGreatA10
import Derived.Test.YtbbjgagpbffooaaGreatEf1
import Derived.Test.YtbbjgagpbffooaaGreatEn3
set_option linter.unusedVariables false
namespace Go.Eng
open Go.Proofs Num Lp
def linX : Lin := ⟨0, [(0, 1)]⟩
def linY : Lin := ⟨-1, [(1, 1)]⟩
def linZ : Lin := ⟨-2, [(0, -1), (1, 1)]⟩
def linW : Lin := ⟨-1, []⟩
theorem lin1_ok {c v a : Int} (hc : -1048576 ≤ c ∧ c ≤ 1048576) (h : a ≠ 0 ∧ -1048576 ≤ a ∧ a ≤ 1048576 ∧ -1 ≤ v ∧ v < 3000) : LinOk ⟨c, [(v, a)]⟩ :=
  ⟨hc, by show 1 ≤ 16; decide, fun i t ht => by
    match i, ht with
    | 0, ht => cases ht; exact h
    | i + 1, ht => simp at ht, fun i x y _ hy => by simp at hy⟩
theorem linX_ok : LinOk linX := lin1_ok (by decide) (by decide)
theorem linY_ok : LinOk linY := lin1_ok (by decide) (by decide)
theorem linW_ok : LinOk linW := ⟨by decide, by decide, fun i t h => by simp [linW] at h, fun i a b h => by simp [linW] at h⟩
theorem linZ_ok : LinOk linZ := by
  refine ⟨by decide, by decide, fun i t ht => ?_, fun i a b ha hb => ?_⟩
  · match i, ht with
    | 0, ht => cases ht; decide
    | 1, ht => cases ht; decide
    | i + 2, ht => simp [linZ] at ht
  · match i, ha, hb with
    | 0, ha, hb => cases ha; cases hb; decide
    | i + 1, ha, hb => simp [linZ] at hb
theorem factsXZ : FactsOk [linX, linZ] := by
  refine ⟨by decide, fun i f hf => ?_, by decide⟩
  match i, hf with
  | 0, hf => cases hf; exact linX_ok
  | 1, hf => cases hf; exact linZ_ok
  | i + 2, hf => simp at hf
theorem factsW : FactsOk [linW] := by
  refine ⟨by decide, fun i f hf => ?_, by decide⟩
  match i, hf with
  | 0, hf => cases hf; exact linW_ok
  | i + 1, hf => simp at hf
theorem entXZ {x : Nat → Rat} (h0 : x 0 = 1) (h1 : x 1 = 1) : Lp.Ent [linX, linZ] linY x := by
  refine ⟨fun i hi => ?_, fun v => ?_, ?_⟩
  · match i, hi with
    | 0, _ => rw [h0]; decide
    | 1, _ => rw [h1]; decide
  · show 0 + x 0 * (((nth [linX, linZ] 0).coef v : Int) : Rat) + x 1 * (((nth [linX, linZ] 1).coef v : Int) : Rat) = _
    have e0 : (nth [linX, linZ] 0).coef v = if (0 : Int) = v then 1 else 0 := rfl
    have e1 : (nth [linX, linZ] 1).coef v = if (0 : Int) = v then -1 else if (1 : Int) = v then 1 else 0 := rfl
    have e2 : linY.coef v = if (1 : Int) = v then 1 else 0 := rfl
    rw [h0, h1, e0, e1, e2]
    by_cases k0 : (0 : Int) = v
    · subst k0; decide +kernel
    · by_cases k1 : (1 : Int) = v
      · subst k1; decide +kernel
      · rw [if_neg k0, if_neg k0, if_neg k1]; decide +kernel
  · show 0 + x 0 * ((0 : Int) : Rat) + x 1 * ((-2 : Int) : Rat) ≤ ((-1 : Int) : Rat)
    rw [h0, h1]; decide +kernel
theorem impXZ : Imp [linX, linZ] linY := .inl ⟨fun _ => 1, entXZ rfl rfl⟩
theorem checkXZ : CheckE [linX, linZ] linY [1, 1] := ⟨factsXZ, linY_ok, ⟨rfl, (entXZ (x := fn [1, 1]) rfl rfl).pos⟩, .inl (entXZ rfl rfl)⟩
theorem contraW : ContraE [linW] [1] := by
  have hp : NonN 1 (fn [1]) := fun i hi => by
    obtain rfl : i = 0 := by omega
    decide +kernel
  refine ⟨factsW, ⟨rfl, hp⟩, hp, fun v => ?_, ?_⟩
  · show 0 + (1 : Rat) * ((0 : Int) : Rat) = 0
    decide +kernel
  · show 0 + (1 : Rat) * ((-1 : Int) : Rat) < 0
    decide +kernel
theorem tm_one {H : Heap} {g : Nat} (hg : H g = none) (v a : Int) : Heap.le H (ins H g (whole (cellsL [.agg #[.int .i64 v, .int .i64 a]]) 51)) ∧ SlV TermP 2 (ins H g (whole (cellsL [.agg #[.int .i64 v, .int .i64 a]]) 51)) (.slice (some ⟨g, 0, none⟩) 1 1) [(v, a)] :=
  ⟨Heap.le_ins _ hg, slV_of_whole rfl (els_one (show TermP _ [_, _] (v, a) from rfl) rfl)⟩
theorem tm_two {H : Heap} {g : Nat} (hg : H g = none) (v a w b : Int) : Heap.le H (ins H g (whole (cellsL [.agg #[.int .i64 v, .int .i64 a], .agg #[.int .i64 w, .int .i64 b]]) 51)) ∧ SlV TermP 2 (ins H g (whole (cellsL [.agg #[.int .i64 v, .int .i64 a], .agg #[.int .i64 w, .int .i64 b]]) 51)) (.slice (some ⟨g, 0, none⟩) 2 2) [(v, a), (w, b)] :=
  ⟨Heap.le_ins _ hg, slV_of_whole rfl (els_cons (show TermP _ [_, _] (v, a) from rfl) rfl (els_one (show TermP _ [_, _] (w, b) from rfl) rfl))⟩
theorem rt_one {H : Heap} {g N : Nat} {t : RC} {q : Rat} (hg : H g = none) (h : RawV H t.v q N) : Heap.le H (ins H g (whole (cellsL [t.v]) 36)) ∧ SlV (RatP N) 3 (ins H g (whole (cellsL [t.v]) 36)) (.slice (some ⟨g, 0, none⟩) 1 1) [q] :=
  ⟨Heap.le_ins _ hg, slV_of_whole rfl (els_one (show RatP N _ [_, _, _] q from h.le (Heap.le_ins _ hg)) rfl)⟩
theorem rt_two {H : Heap} {g N : Nat} {t : RC} {q : Rat} (hg : H g = none) (h : RawV H t.v q N) : Heap.le H (ins H g (whole (cellsL [t.v, t.v]) 36)) ∧ SlV (RatP N) 3 (ins H g (whole (cellsL [t.v, t.v]) 36)) (.slice (some ⟨g, 0, none⟩) 2 2) [q, q] :=
  ⟨Heap.le_ins _ hg, slV_of_whole rfl (els_cons (show RatP N _ [_, _, _] q from h.le (Heap.le_ins _ hg)) rfl (els_one (show RatP N _ [_, _, _] q from h.le (Heap.le_ins _ hg)) rfl))⟩
/-! ## for valid arguments -/
def ImpU (fs : List Lin) (g : Lin) (H : Heap) (v : Value) (H' : Heap) : Prop := Heap.le H H' ∧ ∃ A k c b, v = .tuple #[.slice A k c, .bool b, .int .i64 0] ∧ (b = true ↔ Imp fs g)
theorem impU_ok {H : Heap} {v : Value} {fs : List Lin} {goal : Lin} {A0 : Option Addr} {c0 : Nat} (hv : FmV H v fs) (hgl : SlV TermP 2 H (.slice A0 goal.ts.length c0) goal.ts) (hfo : FactsOk fs) (hgo : LinOk goal) (hfw : FewL fs goal) : Fn Tryz.prog 27 #[v, .agg #[.int .i64 goal.c, .slice A0 goal.ts.length c0]] H (ImpU fs goal H) := by
  refine (implies_ok hv hgl hfw).mono ?_
  rintro v' H' ⟨hl, A, k, c, b, e, rfl, h⟩
  rcases h with ⟨h1, _⟩ | ⟨_, _, rfl, ⟨rfl, x, _, _, _, h⟩ | ⟨rfl, _, _, _, h⟩⟩
  · exact absurd ⟨hfo, hgo⟩ h1
  · exact ⟨hl, A, k, c, true, rfl, ⟨fun _ => h.elim (fun h => .inl ⟨_, h⟩) (fun h => .inr ⟨_, h⟩), fun _ => rfl⟩⟩
  · exact ⟨hl, A, k, c, false, rfl, ⟨(fun h => by cases h), fun h9 => absurd h9 h⟩⟩
theorem sane24_ok {H : Heap} :
  Fn Tryz.prog 15 #[] H (fun v H' => Heap.le H H' ∧ v = .bool true) := by
 refine fn_intro (args := []) Tryz.func15 rfl rfl Tryz.ntmps15 rfl rfl fun w0 => ?_; refine vc_keep [] rfl ?_; refine vc_sr ?_; refine vr 1 ?_; refine vco_k [] ?_; refine vc_sr ?_; refine vco_st tbOk rfl el51 rfl rfl ?_; refine vco_build Tryz.underlying23 el51 rfl rfl rfl rfl rfl rfl rfl ?_; intro g1 hg1; obtain ⟨hl1, hX1⟩ := tm_one hg1 0 1; refine vco_st tbOk rfl el25 rfl rfl ?_; refine vco_st tbOk rfl el51 rfl rfl ?_; refine vco_build Tryz.underlying23 el51 rfl rfl rfl rfl rfl rfl rfl ?_; intro g2 hg2; obtain ⟨hl2, hY2⟩ := tm_one hg2 1 1; have hX2 := hX1.le termUp hl2; have h02 := hl1.trans hl2; refine vco_st tbOk rfl el25 rfl rfl ?_; refine vco_alloc el25 rfl ?_; refine vco_alloc el25 rfl ?_; obtain ⟨ti, hti, htz⟩ := sz25; refine vco_bstore (.inl ⟨rfl, rfl⟩) rfl rfl rfl hti htz rfl rfl rfl ?_; obtain ⟨ti, hti, htz⟩ := sz25; refine vco_bstore (.inl ⟨rfl, rfl⟩) rfl rfl rfl hti htz rfl rfl rfl ?_; refine vco_k [1, 2] ?_; refine vc_sr ?_; refine vco_st tbOk rfl el51 rfl rfl ?_; refine vco_st tbOk rfl el51 rfl rfl ?_; refine vco_build Tryz.underlying23 el51 rfl rfl rfl rfl rfl rfl rfl ?_; intro g3 hg3; obtain ⟨hl3, hZ3⟩ := tm_two hg3 0 (-1) 1 1; have hX3 := hX2.le termUp hl3; have hY3 := hY2.le termUp hl3; have h03 := h02.trans hl3; refine vco_st tbOk rfl el25 rfl rfl ?_; refine vco_alloc el25 rfl ?_; obtain ⟨ti, hti, htz⟩ := sz25; refine vco_bstore (.inl ⟨rfl, rfl⟩) rfl rfl rfl hti htz rfl rfl rfl ?_; refine vco_k [1, 2, 3] ?_; refine vc_sr ?_; refine vco_call rfl rfl ((rFromInt_ok (n := 1) (by decide) (by decide)).rc) ?_
 rintro _ H4 ⟨hl4, t4, rfl, hq4⟩; have hX4 := hX3.le termUp hl4; have hY4 := hY3.le termUp hl4; have hZ4 := hZ3.le termUp hl4; have h04 := h03.trans hl4; have hr4 : RawV H4 t4.v 1 1 := (CanV.raw (show CanV H4 t4.v 1 from hq4)).mono (by decide); refine vco_alloc el36 rfl ?_; obtain ⟨ti, hti, htz⟩ := sz36; refine vco_bstore (.inl ⟨rfl, rfl⟩) rfl rfl rfl hti htz rfl rfl rfl ?_; refine vco_k [1, 2, 3, 4] ?_; refine vc_sr ?_; refine vr 2 ?_; refine vco_build Tryz.underlying22 el25 rfl rfl rfl rfl rfl rfl rfl ?_; intro g5 hg5; obtain ⟨hl5, hm5⟩ := fm_two (a := linX) (b := linZ) hg5 hX4 hZ4; refine vr 1 ?_; refine vco_call rfl rfl (impU_ok (goal := linY) hm5 (hY4.le termUp hl5) factsXZ linY_ok (fun _ _ => ⟨by decide, by decide⟩)) ?_; rintro _ H6 ⟨hl6, A6, k6, c6, b6, rfl, hb6⟩; obtain rfl := hb6.2 impXZ; have h46 := hl5.trans hl6; have hX6 := hX4.le termUp h46; have hY6 := hY4.le termUp h46; have hZ6 := hZ4.le termUp h46; have h06 := h04.trans h46; refine vr 7 ?_; refine vco_k [1, 2, 3, 4, 6, 7] ?_; refine vc_sr ?_; refine vr 1 ?_; refine vco_cmp true rfl rfl (ceq_t rfl) ?_; refine vr 6 ?_; refine vco_build Tryz.underlying22 el25 rfl rfl rfl rfl rfl rfl rfl ?_; intro g7 hg7; obtain ⟨hl7, hm7⟩ := fm_two (a := linX) (b := linZ) hg7 hX6 hZ6; refine vr 3 ?_; refine vco_build Tryz.underlying26 el36 rfl rfl rfl rfl rfl rfl rfl ?_; intro g8 hg8; obtain ⟨hl8, hp8⟩ := rt_two hg8 ((hr4.le h46).le hl7); have h48 := (h46.trans hl7).trans hl8
 refine vco_call rfl rfl ((echeck_ok (goal := linY) ⟨hm7.le formUp hl8, hp8, by decide⟩ ((hY6.le termUp hl7).le termUp hl8)).yes checkXZ) ?_; rintro _ H9 ⟨hl9, rfl⟩; refine vr 2 ?_; refine vco_st tbOk rfl el25 rfl rfl ?_; refine vco_build Tryz.underlying22 el25 rfl rfl rfl rfl rfl rfl rfl ?_; intro g10 hg10; obtain ⟨hl10, hm10⟩ := fm_one (a := linW) (A := none) (ca := 0) hg10 SlV.nil; refine vr 1 ?_; refine vco_build Tryz.underlying26 el36 rfl rfl rfl rfl rfl rfl rfl ?_; intro g11 hg11; obtain ⟨hl11, hp11⟩ := rt_one hg11 (hr4.le ((h48.trans hl9).trans hl10)); refine vco_call rfl rfl ((econtra_ok (fs := [linW]) ⟨hm10.le formUp hl11, hp11, by decide⟩).yes contraW) ?_; rintro _ H12 ⟨hl12, rfl⟩; refine vr 2 ?_; refine vco_k [0] ?_; refine vc_ret ⟨.inr rfl, _, .tmp rfl (.nil), ?_⟩; exact ⟨((((((h06.trans hl7).trans hl8).trans hl9).trans hl10).trans hl11).trans hl12), rfl⟩
end Go.Eng
