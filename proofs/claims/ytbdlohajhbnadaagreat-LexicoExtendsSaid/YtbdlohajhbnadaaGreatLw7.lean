/- LexicoExtends: ref22.canonicals, ref22.Extend, lexico.Extend and the law's walk. -/
import Derived.Test.YtbdlohajhbnadaaGreatA10
import Derived.Test.YtbdlohajhbnadaaGreatLw2
import Derived.Test.YtbdlohajhbnadaaGreatSame
set_option linter.unusedVariables false
namespace Go.Eng
open Go.Proofs Num Lp
/-- Which error Extend has. -/
def ExtE (p : Prg) (os : List (List Rat)) (vs : List Rat) (e : Int) : Prop := (¬ p.Ok ∧ e = 1) ∨ (p.Ok ∧ ¬ ((∀ o, o ∈ os → o.length = p.free.length) ∧ vs.length ≤ os.length) ∧ e = 21) ∨ (p.Ok ∧ ((∀ o, o ∈ os → o.length = p.free.length) ∧ vs.length ≤ os.length) ∧ 800 < p.rows.length + vs.length ∧ e = 9) ∨ (p.Ok ∧ ((∀ o, o ∈ os → o.length = p.free.length) ∧ vs.length ≤ os.length) ∧ p.rows.length + vs.length ≤ 800 ∧ e = 0)
theorem extE_unique {p : Prg} {os : List (List Rat)} {vs : List Rat} {e e' : Int} (h : ExtE p os vs e) (h' : ExtE p os vs e') : e = e' := by
  rcases h with ⟨h1, h2⟩ | ⟨h1, h2, h3⟩ | ⟨h1, h2, h3, h4⟩ | ⟨h1, h2, h3, h4⟩ <;> rcases h' with ⟨k1, k2⟩ | ⟨k1, k2, k3⟩ | ⟨k1, k2, k3, k4⟩ | ⟨k1, k2, k3, k4⟩ <;>
    first | omega | exact absurd k1 h1 | exact absurd h1 k1 | exact absurd k2 h2 | exact absurd h2 k2
def extQ (p : Prg) (os : List (List Rat)) (vs : List Rat) (e : Int) : Prg := if e = 0 then extP p os vs else ⟨[], []⟩
theorem ExtE.ok {p : Prg} {os : List (List Rat)} {vs : List Rat} {e : Int} (h : ExtE p os vs e) : (extQ p os vs e).Ok := by
  unfold extQ
  by_cases h0 : e = 0
  · rw [if_pos h0]
    rcases h with ⟨_, h2⟩ | ⟨_, _, h3⟩ | ⟨_, _, _, h4⟩ | ⟨h1, h2, h3, _⟩
    · omega
    · omega
    · omega
    · exact ext_ok h1 h2.1 h3
  · rw [if_neg h0]
    exact ⟨Nat.zero_le _, Nat.zero_le _, fun i r hi => by simp at hi⟩
theorem progV_zero (N : Nat) (H : Heap) : ProgV N H (.agg #[.slice none 0 0, .slice none 0 0]) ⟨[], []⟩ := ⟨_, _, rfl, slV_nil, slV_nil⟩
/-- What Extend gives. -/
def ExtR (p : Prg) (os : List (List Rat)) (vs : List Rat) (N : Nat) (H : Heap) (v : Value) (H' : Heap) : Prop := Heap.le H H' ∧ ∃ (A1 : Option Addr) (k1 c1 : Nat) (A2 : Option Addr) (k2 c2 : Nat) (e : Int), v = .tuple #[.agg #[.slice A1 k1 c1, .slice A2 k2 c2], .int .i64 e] ∧ ExtE p os vs e ∧ ProgV N H' (.agg #[.slice A1 k1 c1, .slice A2 k2 c2]) (extQ p os vs e)
theorem rcans_ok {H : Heap} {v : Value} {l : List Rat} {N : Nat} (h : SlV (RatP N) 3 H v l) (hl : l.length ≤ 1000) (hN : (N : Int) ≤ 1099511627776) :
  Fn Tryz.prog 81 #[v] H (fun v' H' => Heap.le H H' ∧ ∃ A c, v' = .slice A l.length c ∧ SlV (RatP (N + 2)) 3 H' v' l) := by
 have hz := h.rsize
 obtain ⟨A, c, xs, rfl, hc, hr, hx⟩ := id h; refine fn_intro (args := [_]) Tryz.func81 rfl rfl Tryz.ntmps81 rfl rfl fun w0 => ?_; refine vc_keep [0] rfl ?_; refine vc_sr ?_; refine vr 1 ?_; refine vco_k [0] ?_; refine vc_sr ?_; refine vr 2 ?_; refine vco_make Tryz.underlying29 el42 rfl rfl rfl (by omega) (by omega) (by omega) (by omega) ?_; intro g hg; have hg0 := gro_make (P := CanP) (e := 42) (sz := 3) (zs := [.bool false, .slice none 0 0, .slice none 0 0]) (z := 0) (k := (l.length : Int)) (c := l.length) hg rfl (by omega) (by unfold maxLen; omega); refine vr 1 ?_; refine vco_k [0, 3] ?_; refine vc_seq ?_; refine vc_sr ?_; refine vr 3 ?_; refine vco_k [0, 3, 9, 10] ?_; refine vc_block ?_; refine vc_loop3 (fun (i : Nat) (w : Value) (ys : List Value) => l.length - i) (fun (i : Nat) (w : Value) (ys : List Value) => put (put (put (put (emp) 0 (.val (.slice A l.length c))) 3 (.val (w))) 9 (.val (.int .i64 (l.length : Int)))) 10 (.val (.int .i64 (i : Int)))) (fun (i : Nat) (w : Value) (ys : List Value) H' => Gro CanP 42 3 H H' w (l.take i) ys ∧ i ≤ l.length) 0 _ [] (⟨by simpa using hg0, Nat.zero_le _⟩) sub_auto ?_; rintro i w ys H1 ⟨hG, hi⟩; obtain ⟨W, cw, rfl⟩ := hG.form
 have htl : (l.take i).length = i := by rw [List.length_take]; omega
 refine vc_sr ?_; refine vr 1 ?_; refine vco_k [0, 3, 9, 10, 11] ?_; refine vc_seq ?_; refine vc_cond rfl (fun hb => ?_) (fun hb => ?_)
 ·
  have hil : i < l.length := by simpa using hb
  obtain ⟨q, hq⟩ : ∃ q, l[i]? = some q := ⟨_, List.getElem?_eq_getElem hil⟩; obtain ⟨f1, A1, k1, c1, A2, k2, c2, hs1, hraw1, hx1⟩ := SlV.seg3 hx hq; refine vc_skip ?_; refine vc_keep [0, 3, 9, 10] rfl ?_; refine vc_seq ?_; refine vc_block ?_; refine vc_sr ?_; refine vr 2 ?_; refine vco_k [0, 3, 4, 9, 10] ?_; refine vc_region rfl ?_; refine vr 3 ?_; refine vco_at_st (vs := [.bool f1, .slice A1 k1 c1, .slice A2 k2 c2]) tbOk rfl rfl rfl rfl (hr.le hG.le) rfl (by decide) hx1 (by omega) (by omega) fun _ => ?_; refine vco_call rfl rfl (hG.call (rCanonical_ok (hraw1.le hG.base) (by omega))) ?_; rintro _ H2 hF2; have hG2 := hG.framed canUp hF2 fun _ _ h => h.1; obtain ⟨⟨_, hq2⟩, _⟩ := hF2; obtain ⟨f2, A21, m21, c21, A22, m22, c22, rfl⟩ := hq2.form; refine vco_build Tryz.underlying29 el42 rfl rfl rfl rfl rfl rfl rfl ?_; intro gb hgb; have hG3 := hG2.ins canUp (whole (cellsL [.agg #[.bool f2, .slice A21 m21 c21, .slice A22 m22 c22]]) 42) hgb; refine vco_append Tryz.underlying29 el42 rfl rfl hG3.own (rd_ins _ _ _ _ _ _) rfl (one_rat _ _ _ _ _ _ _) (by rw [htl]; omega) (by rw [htl]; omega) ?_; intro v4 H4 ha4; have hG4 := hG3.append canUp (k := [q]) (by simp) ha4 (els_one (canUp _ _ _ _ (rem_mono _ (Heap.le_ins _ hgb)) (show CanP _ [_, _, _] _ from hq2)) rfl); refine vr 1 ?_; refine vco_end ?_; refine vc_keep [0, 3, 9, 10] rfl ?_; refine vc_region rfl ?_; refine vco_add rfl rfl ⟨by omega, by omega⟩ ?_; refine vr 1 ?_; refine vco_end ?_
  exact ⟨i + 1, _, _, by omega, sub_auto, by rw [take_snoc hq]; exact hG4, by omega⟩
 ·
  have hb : l.length ≤ i := by simpa using hb
  obtain rfl : i = l.length := by omega
  rw [List.take_length] at hG; rw [List.take_length]; refine vc_exit ?_; refine vc_keep [3] rfl ?_; refine vc_sr ?_; refine vr 2 ?_; refine vco_k [2] ?_; refine vc_ret ⟨.inr rfl, _, .tmp rfl (.nil), ?_⟩; exact ⟨hG.le, _, _, rfl, (hG.sl canUp).can_rat hz⟩
theorem lexExt_ok {H : Heap} {v ov vv : Value} {p : Prg} {os : List (List Rat)} {vs : List Rat} {N : Nat} (hp : ProgV N H v p) (ho : LsV N H ov os) (hv : SlV (RatP N) 3 H vv vs) (hol : os.length ≤ 9223372036854775807) (hvl : vs.length ≤ 4611686018427387904) (hN : (N : Int) ≤ 1099511627776) :
  Fn Tryz.prog 30 #[v, ov, vv] H (ExtR p os vs (N + 2) H) := by
 obtain ⟨fv, rv0, rfl, hfv, hrv0⟩ := id hp
 obtain ⟨Af, cf, xf, rfl, hrF, hxF⟩ := hfv.one
 obtain ⟨Ar, cr, xr, rfl, hcr, hrR, hxR⟩ := id hrv0
 obtain ⟨Ao, co, xo, rfl, hco, hro, hxo⟩ := id ho
 obtain ⟨Av, cv, xv, rfl, hcv, hrv, hev⟩ := id hv; refine fn_intro (args := [_, _, _]) Tryz.func30 rfl rfl Tryz.ntmps30 rfl rfl fun w0 => ?_; refine vc_keep [0, 1, 2] rfl ?_; refine vc_sr ?_; refine vco_box rfl rfl ?_; refine vco_alloc el25 rfl ?_; refine vr 1 ?_; refine vco_k [1, 2, 3, 6] ?_; refine vc_seq ?_; refine vc_sr ?_; refine vr 1 ?_; refine vco_call rfl rfl (Valid_ok hp) ?_; rintro _ H1 ⟨e1, b1, rfl, hb1⟩; rw [e1]; refine vr 1 ?_; refine vco_k [1, 2, 3, 6, 10] ?_; refine vc_cond rfl (fun hb => ?_) (fun hb => ?_)
 ·
  have hbf : b1 = false := by simpa using hb
  subst hbf; refine vc_sr ?_; refine vco_st tbOk rfl el25 rfl rfl ?_; obtain ⟨ti, hti, htz⟩ := sz25; refine vco_bstore (.inl ⟨rfl, rfl⟩) rfl rfl rfl hti htz rfl rfl rfl ?_; refine vr 1 ?_; refine vco_k [6, 7] ?_; obtain ⟨ri0, rhi0, rhz0⟩ := sz25; refine vc_ret ⟨.inr rfl, _, .agg rfl Tryz.underlying25 rhi0 rhz0 (.tmp rfl (.nil)), ?_⟩; exact ⟨.refl _, _, _, _, _, _, _, 1, rfl, .inl ⟨fun h => (by have h9 := hb1.2 h; cases h9), rfl⟩, progV_zero _ _⟩
 ·
  have hbt : b1 = true := by simpa using hb
  have hok := hb1.1 hbt; have hm8 := hok.rows; have hn4 := hok.cols; refine vc_skip ?_; refine vc_keep [1, 2, 3, 6] rfl ?_; refine vc_seq ?_; refine vc_sr ?_; refine vr 2 ?_; refine vco_call rfl rfl (vectors_ok hp ho hol) ?_; rintro _ H2 ⟨e2, b2, rfl, hb2⟩; rw [e2]
  cases b2
  ·
   skip
   refine vr 8 ?_; refine vco_k [1, 2, 3, 6, 22] ?_; refine vc_cond_t rfl ?_; refine vc_sr ?_; refine vco_st tbOk rfl el25 rfl rfl ?_; obtain ⟨ti, hti, htz⟩ := sz25; refine vco_bstore (.inl ⟨rfl, rfl⟩) rfl rfl rfl hti htz rfl rfl rfl ?_; refine vr 1 ?_; refine vco_k [6, 7] ?_; obtain ⟨ri0, rhi0, rhz0⟩ := sz25; refine vc_ret ⟨.inr rfl, _, .agg rfl Tryz.underlying25 rhi0 rhz0 (.tmp rfl (.nil)), ?_⟩; exact ⟨.refl _, _, _, _, _, _, _, 21, rfl, .inr (.inl ⟨hok, fun h => (by have h9 := hb2.2 h.1; cases h9), rfl⟩), progV_zero _ _⟩
  ·
   skip
   refine vr 6 ?_
   by_cases hvo : os.length < vs.length
   ·
    skip
    refine vco_cmp true rfl rfl (cgt_t (by omega)) ?_; refine vr 1 ?_; refine vco_k [1, 2, 3, 6, 22] ?_; refine vc_cond_t rfl ?_; refine vc_sr ?_; refine vco_st tbOk rfl el25 rfl rfl ?_; obtain ⟨ti, hti, htz⟩ := sz25; refine vco_bstore (.inl ⟨rfl, rfl⟩) rfl rfl rfl hti htz rfl rfl rfl ?_; refine vr 1 ?_; refine vco_k [6, 7] ?_; obtain ⟨ri0, rhi0, rhz0⟩ := sz25; refine vc_ret ⟨.inr rfl, _, .agg rfl Tryz.underlying25 rhi0 rhz0 (.tmp rfl (.nil)), ?_⟩; exact ⟨.refl _, _, _, _, _, _, _, 21, rfl, .inr (.inl ⟨hok, fun h => (by have h9 := h.2; omega), rfl⟩), progV_zero _ _⟩
   ·
    have hvec := hb2.1 rfl
    have ho4 : ∀ o, o ∈ os → o.length ≤ 1000 := fun o h => by have := hvec o h; omega
    refine vco_cmp false rfl rfl (cgt_f (by omega)) ?_; refine vr 1 ?_; refine vco_k [1, 2, 3, 6, 22] ?_; refine vc_cond_f rfl ?_; refine vc_skip ?_; refine vc_keep [1, 2, 3, 6] rfl ?_; refine vc_seq ?_; refine vc_sr ?_; refine vr 5 ?_; refine vco_add rfl rfl ⟨by omega, by omega⟩ ?_; refine vr 1 ?_; refine vco_k [1, 2, 3, 6, 30] ?_; refine vc_cond rfl (fun hb => ?_) (fun hb => ?_)
    ·
     have h8i : (800 : Int) < (p.rows.length : Int) + (vs.length : Int) := by simpa using hb
     refine vc_sr ?_; refine vco_st tbOk rfl el25 rfl rfl ?_; obtain ⟨ti, hti, htz⟩ := sz25; refine vco_bstore (.inl ⟨rfl, rfl⟩) rfl rfl rfl hti htz rfl rfl rfl ?_; refine vr 1 ?_; refine vco_k [6, 7] ?_; obtain ⟨ri0, rhi0, rhz0⟩ := sz25; refine vc_ret ⟨.inr rfl, _, .agg rfl Tryz.underlying25 rhi0 rhz0 (.tmp rfl (.nil)), ?_⟩; exact ⟨.refl _, _, _, _, _, _, _, 9, rfl, .inr (.inr (.inl ⟨hok, ⟨hvec, by omega⟩, by omega, rfl⟩)), progV_zero _ _⟩
    ·
     have h8i : (p.rows.length : Int) + (vs.length : Int) ≤ 800 := by simpa using hb
     have hr4 : ∀ r, r ∈ p.rows → r.1.length ≤ 1000 := fun r hr => by obtain ⟨i, hi⟩ := List.getElem?_of_mem hr; have := (hok.row i r hi).1; omega
     refine vc_skip ?_; refine vc_keep [1, 2, 3, 6] rfl ?_; refine vc_sr ?_; refine vr 3 ?_; refine vco_call rfl rfl (extend_ok (gs := []) (fun q hq => by cases hq) (by rw [rem_nil]; exact hp) (by rw [rem_nil]; exact ho) hrv (by rw [rem_nil]; exact hev) (by omega) hn4 hm8 hr4 ho4 (by omega) hN) ?_; rintro _ H3 ⟨⟨_, hl3⟩, A1, k1, c1, A2, k2, c2, rfl, hq3⟩; rw [rem_nil, rem_nil] at hl3; rw [rem_nil] at hq3; obtain ⟨ti, hti, htz⟩ := sz25; refine vco_bstore (.inl ⟨rfl, rfl⟩) rfl rfl rfl hti htz rfl rfl rfl ?_; refine vr 1 ?_; refine vco_k [6, 7] ?_; obtain ⟨ri0, rhi0, rhz0⟩ := sz25; refine vc_ret ⟨.inr rfl, _, .agg rfl Tryz.underlying25 rhi0 rhz0 (.tmp rfl (.nil)), ?_⟩; exact ⟨hl3, _, _, _, _, _, _, 0, rfl, .inr (.inr (.inr ⟨hok, ⟨hvec, by omega⟩, by omega, rfl⟩)), hq3⟩
theorem rExt_ok {H : Heap} {v ov vv : Value} {p : Prg} {os : List (List Rat)} {vs : List Rat} {N : Nat} (hp : ProgV N H v p) (ho : LsV N H ov os) (hv : SlV (RatP N) 3 H vv vs) (hol : os.length ≤ 9223372036854775807) (hvl : vs.length ≤ 4611686018427387904) (hN : (N : Int) ≤ 1099511627776) :
  Fn Tryz.prog 31 #[v, ov, vv] H (ExtR p os vs (N + 2) H) := by
 obtain ⟨fv, rv0, rfl, hfv, hrv0⟩ := id hp
 obtain ⟨Af, cf, xf, rfl, hrF, hxF⟩ := hfv.one
 obtain ⟨Ar, cr, xr, rfl, hcr, hrR, hxR⟩ := id hrv0
 obtain ⟨Ao, co, xo, rfl, hco, hro, hxo⟩ := id ho
 obtain ⟨Av, cv, xv, rfl, hcv, hrv, hev⟩ := id hv; refine fn_intro (args := [_, _, _]) Tryz.func31 rfl rfl Tryz.ntmps31 rfl rfl fun w0 => ?_; refine vc_keep [0, 1, 2] rfl ?_; refine vc_sr ?_; refine vco_box rfl rfl ?_; refine vco_alloc el25 rfl ?_; refine vr 1 ?_; refine vco_k [1, 2, 3, 6] ?_; refine vc_seq ?_; refine vc_sr ?_; refine vr 1 ?_; refine vco_call rfl rfl (rValid_ok hp) ?_; rintro _ H1 ⟨e1, b1, rfl, hb1⟩; rw [e1]; refine vr 1 ?_; refine vco_k [1, 2, 3, 6, 13] ?_; refine vc_cond rfl (fun hb => ?_) (fun hb => ?_)
 ·
  have hbf : b1 = false := by simpa using hb
  subst hbf; refine vc_sr ?_; refine vco_st tbOk rfl el25 rfl rfl ?_; obtain ⟨ti, hti, htz⟩ := sz25; refine vco_bstore (.inl ⟨rfl, rfl⟩) rfl rfl rfl hti htz rfl rfl rfl ?_; refine vr 1 ?_; refine vco_k [6, 7] ?_; obtain ⟨ri0, rhi0, rhz0⟩ := sz25; refine vc_ret ⟨.inr rfl, _, .agg rfl Tryz.underlying25 rhi0 rhz0 (.tmp rfl (.nil)), ?_⟩; exact ⟨.refl _, _, _, _, _, _, _, 1, rfl, .inl ⟨fun h => (by have h9 := hb1.2 h; cases h9), rfl⟩, progV_zero _ _⟩
 ·
  have hbt : b1 = true := by simpa using hb
  have hok := hb1.1 hbt; have hm8 := hok.rows; have hn4 := hok.cols; refine vc_skip ?_; refine vc_keep [1, 2, 3, 6] rfl ?_; refine vc_seq ?_; refine vc_sr ?_; refine vr 2 ?_; refine vco_call rfl rfl (rVectors_ok hp ho hol) ?_; rintro _ H2 ⟨e2, b2, rfl, hb2⟩; rw [e2]
  cases b2
  ·
   skip
   refine vr 8 ?_; refine vco_k [1, 2, 3, 6, 25] ?_; refine vc_cond_t rfl ?_; refine vc_sr ?_; refine vco_st tbOk rfl el25 rfl rfl ?_; obtain ⟨ti, hti, htz⟩ := sz25; refine vco_bstore (.inl ⟨rfl, rfl⟩) rfl rfl rfl hti htz rfl rfl rfl ?_; refine vr 1 ?_; refine vco_k [6, 7] ?_; obtain ⟨ri0, rhi0, rhz0⟩ := sz25; refine vc_ret ⟨.inr rfl, _, .agg rfl Tryz.underlying25 rhi0 rhz0 (.tmp rfl (.nil)), ?_⟩; exact ⟨.refl _, _, _, _, _, _, _, 21, rfl, .inr (.inl ⟨hok, fun h => (by have h9 := hb2.2 h.1; cases h9), rfl⟩), progV_zero _ _⟩
  ·
   skip
   refine vr 6 ?_
   by_cases hvo : os.length < vs.length
   ·
    skip
    refine vco_cmp true rfl rfl (cgt_t (by omega)) ?_; refine vr 1 ?_; refine vco_k [1, 2, 3, 6, 25] ?_; refine vc_cond_t rfl ?_; refine vc_sr ?_; refine vco_st tbOk rfl el25 rfl rfl ?_; obtain ⟨ti, hti, htz⟩ := sz25; refine vco_bstore (.inl ⟨rfl, rfl⟩) rfl rfl rfl hti htz rfl rfl rfl ?_; refine vr 1 ?_; refine vco_k [6, 7] ?_; obtain ⟨ri0, rhi0, rhz0⟩ := sz25; refine vc_ret ⟨.inr rfl, _, .agg rfl Tryz.underlying25 rhi0 rhz0 (.tmp rfl (.nil)), ?_⟩; exact ⟨.refl _, _, _, _, _, _, _, 21, rfl, .inr (.inl ⟨hok, fun h => (by have h9 := h.2; omega), rfl⟩), progV_zero _ _⟩
   ·
    have hvec := hb2.1 rfl
    have ho4 : ∀ o, o ∈ os → o.length ≤ 1000 := fun o h => by have := hvec o h; omega
    refine vco_cmp false rfl rfl (cgt_f (by omega)) ?_; refine vr 1 ?_; refine vco_k [1, 2, 3, 6, 25] ?_; refine vc_cond_f rfl ?_; refine vc_skip ?_; refine vc_keep [1, 2, 3, 6] rfl ?_; refine vc_seq ?_; refine vc_sr ?_; refine vr 5 ?_; refine vco_add rfl rfl ⟨by omega, by omega⟩ ?_; refine vr 1 ?_; refine vco_k [1, 2, 3, 6, 33] ?_; refine vc_cond rfl (fun hb => ?_) (fun hb => ?_)
    ·
     have h8i : (800 : Int) < (p.rows.length : Int) + (vs.length : Int) := by simpa using hb
     refine vc_sr ?_; refine vco_st tbOk rfl el25 rfl rfl ?_; obtain ⟨ti, hti, htz⟩ := sz25; refine vco_bstore (.inl ⟨rfl, rfl⟩) rfl rfl rfl hti htz rfl rfl rfl ?_; refine vr 1 ?_; refine vco_k [6, 7] ?_; obtain ⟨ri0, rhi0, rhz0⟩ := sz25; refine vc_ret ⟨.inr rfl, _, .agg rfl Tryz.underlying25 rhi0 rhz0 (.tmp rfl (.nil)), ?_⟩; exact ⟨.refl _, _, _, _, _, _, _, 9, rfl, .inr (.inr (.inl ⟨hok, ⟨hvec, by omega⟩, by omega, rfl⟩)), progV_zero _ _⟩
    ·
     have h8i : (p.rows.length : Int) + (vs.length : Int) ≤ 800 := by simpa using hb
     have hr4 : ∀ r, r ∈ p.rows → r.1.length ≤ 1000 := fun r hr => by obtain ⟨i, hi⟩ := List.getElem?_of_mem hr; have := (hok.row i r hi).1; omega
     refine vc_skip ?_; refine vc_keep [1, 2, 3, 6] rfl ?_; refine vc_sr ?_; refine vr 2 ?_; refine vco_app boolUp oneBool (by decide) Tryz.underlying22 el4 rfl rfl (gro_nil H) (by rw [blk_nil, rem_nil]; exact hfv) (by rw [List.length_nil]; omega) (by rw [List.length_nil]; omega) ?_; intro v7 H7 y7 hG7f _; rw [List.nil_append] at hG7f; have hlF := hG7f.le; have hfc := hG7f.sl boolUp; obtain ⟨E1, d1, rfl⟩ := hG7f.form; clear hG7f; refine vco_st tbOk rfl el25 rfl rfl ?_; refine vco_alloc el25 rfl ?_; obtain ⟨ti, hti, htz⟩ := sz25; refine vco_bstore (.inl ⟨rfl, rfl⟩) rfl rfl rfl hti htz rfl rfl rfl ?_; refine vco_k [1, 2, 3, 6, 8] ?_; refine vc_seq ?_; refine vc_sr ?_; refine vr 4 ?_; refine vco_k [1, 2, 3, 6, 8, 41, 42] ?_; refine vc_block ?_; refine vc_loop3 (fun (i : Nat) (w : Value) (ys : List Value) => p.rows.length - i) (fun (i : Nat) (w : Value) (ys : List Value) => put (put (put (put (put (put (put (emp) 1 (.val (.slice Ao os.length co))) 2 (.val (.slice Av vs.length cv))) 3 (.box [.slice Af p.free.length cf, .slice Ar p.rows.length cr])) 6 (.box [.slice none 0 0, .slice none 0 0])) 8 (.box [.slice E1 p.free.length d1, w])) 41 (.val (.int .i64 (p.rows.length : Int)))) 42 (.val (.int .i64 (i : Int)))) (fun (i : Nat) (w : Value) (ys : List Value) H' => Gro (RowP (N + 2)) 63 5 H7 H' w (p.rows.take i) ys ∧ i ≤ p.rows.length) 0 (.slice none 0 0) [] (⟨gro_nil H7, Nat.zero_le _⟩) sub_auto ?_; rintro i w ys H2 ⟨hG, hi⟩; obtain ⟨W, cw, rfl⟩ := hG.form
     have htl : (p.rows.take i).length = i := by rw [List.length_take]; omega
     have hb2 := hlF.trans hG.base; refine vc_sr ?_; refine vr 1 ?_; refine vco_k [1, 2, 3, 6, 8, 41, 42, 43] ?_; refine vc_seq ?_; refine vc_cond rfl (fun hb => ?_) (fun hb => ?_)
     ·
      have him : i < p.rows.length := by simpa using hb
      obtain ⟨r, hr⟩ : ∃ r, p.rows[i]? = some r := ⟨_, List.getElem?_eq_getElem him⟩; have hr5 := hr4 r (List.mem_of_getElem? hr); obtain ⟨A0, c0, f, A1, m1, c1, A2, m2, c2, hsg, hsl, hraw, hrx⟩ := SlV.segR hxR hr; have hzb := hraw.size; refine vc_skip ?_; refine vc_keep [1, 2, 3, 6, 8, 41, 42] rfl ?_; refine vc_seq ?_; refine vc_block ?_; refine vc_sr ?_; refine vr 2 ?_; refine vco_k [1, 2, 3, 6, 8, 9, 41, 42] ?_; refine vc_draw .drawB [0, 1, 2, 3, 4, 5, 6, 7, 9, 10, 11, 12, 13, 14, 15, 16, 17, 18, 19, 20, 8, 21, 22, 23, 24, 25, 26] follows (by kernel_rfl) ?_; refine vr 5 ?_; refine vco_atf tbOk rfl rfl rfl rfl rfl rfl rfl ((hrR.le hb2).le (rem_le _ _)) (hrx 0 _ rfl) (by omega) (by omega) fun _ _ => ?_; refine vr 3 ?_; refine vco_atf tbOk rfl rfl rfl rfl rfl rfl rfl ((hrR.le hb2).le (rem_le _ _)) (hrx 1 _ rfl) (by omega) (by omega) fun _ _ => ?_; refine vr 3 ?_; refine vco_atf_st tbOk rfl rfl rfl rfl rfl rfl ((hrR.le hb2).le (rem_le _ _)) rfl (by decide) (row_b hrx) (by omega) (by omega) fun _ _ => ?_; refine vco_callM rfl rfl (hG.call (rcans_ok (hsl.le (ratUp N) hb2) (by omega) (by omega))) (fun _ _ h => h.le fun _ _ h => h.1) ?_; rintro _ H5 hF5; have hG5 := hG.framed (rowUp (N + 2)) hF5 fun _ _ h => h.1; obtain ⟨⟨_, A5, c5, rfl, hs5⟩, _⟩ := hF5; refine vco_callM rfl rfl (hG5.call (rCanonical_ok (hraw.le (hlF.trans hG5.base)) (by omega))) (fun _ _ h => h.le fun _ _ h => h.1) ?_; rintro _ H6 hF6; have hG6 := hG5.framed (rowUp (N + 2)) hF6 fun _ _ h => h.1
      obtain ⟨⟨hl56, hq6⟩, _⟩ := hF6; obtain ⟨f6, A61, m61, c61, A62, m62, c62, rfl⟩ := hq6.form; have hRow : RowP (N + 2) (rem H6 (blk (.slice W (p.rows.take i).length cw))) [.slice A5 r.1.length c5, .int .i64 r.2.1, .bool f6, .slice A61 m61 c61, .slice A62 m62 c62] r := ⟨_, _, _, _, rfl, hs5.le (ratUp (N + 2)) hl56, (CanV.raw hq6).mono (by omega)⟩; refine vco_st tbOk rfl el63 rfl rfl ?_; refine vco_build Tryz.underlying23 el63 rfl rfl rfl rfl rfl rfl rfl ?_; intro gd hgd; have hG7 := hG6.ins (rowUp (N + 2)) (whole (cellsL [.agg #[.slice A5 r.1.length c5, .int .i64 r.2.1, .bool f6, .slice A61 m61 c61, .slice A62 m62 c62]]) 63) hgd; refine vco_append Tryz.underlying23 el63 rfl rfl hG7.own (rd_ins _ _ _ _ _ _) rfl (one_row _ _ _ _ _ _ _ _ _ _ _) (by rw [htl]; omega) (by rw [htl]; omega) ?_; intro v8 H8 ha8; have hG8 := hG7.append (rowUp (N + 2)) (k := [r]) (by simp) ha8 (els_one (rowUp (N + 2) _ _ _ _ (rem_mono _ (Heap.le_ins _ hgd)) hRow) rfl); obtain ⟨F8, g8, rfl⟩ := hG8.form; refine vr 1 ?_; obtain ⟨ti, hti, htz⟩ := sz23; refine vco_bstore (.inr rfl) rfl rfl rfl hti htz rfl rfl rfl ?_; refine vco_end ?_; refine vc_keep [1, 2, 3, 6, 8, 41, 42] rfl ?_; refine vc_region rfl ?_; refine vco_add rfl rfl ⟨by omega, by omega⟩ ?_; refine vr 1 ?_; refine vco_end ?_; exact ⟨i + 1, _, _, by omega, sub_auto, by rw [take_snoc hr]; exact hG8, by omega⟩
     ·
      have hb : p.rows.length ≤ i := by simpa using hb
      obtain rfl : i = p.rows.length := by omega
      rw [List.take_length] at hG; rw [List.take_length]; refine vc_exit ?_; refine vc_keep [1, 2, 6, 8] rfl ?_; refine vc_seq ?_; refine vc_sr ?_; refine vr 3 ?_; refine vco_k [1, 2, 6, 8, 73, 74] ?_; refine vc_block ?_; refine vc_loop3 (fun (i : Nat) (w : Value) (zs : List Value) => vs.length - i) (fun (i : Nat) (w : Value) (zs : List Value) => put (put (put (put (put (put (emp) 1 (.val (.slice Ao os.length co))) 2 (.val (.slice Av vs.length cv))) 6 (.box [.slice none 0 0, .slice none 0 0])) 8 (.box [.slice E1 p.free.length d1, w])) 73 (.val (.int .i64 (vs.length : Int)))) 74 (.val (.int .i64 (i : Int)))) (fun (i : Nat) (w : Value) (zs : List Value) H' => Gro (RowP (N + 2)) 63 5 H7 H' w (p.rows ++ ((os.zip vs).map ZF).take i) zs ∧ i ≤ vs.length) 0 _ _ (⟨by rw [List.take_zero, List.append_nil]; exact hG, Nat.zero_le _⟩) sub_auto ?_; rintro i w zs H3 ⟨hG, hi⟩; obtain ⟨W, cw, rfl⟩ := hG.form
      have htl : (p.rows ++ ((os.zip vs).map ZF).take i).length = p.rows.length + i := by rw [List.length_append, List.length_take, List.length_map, List.length_zip]; omega
      have hb2 := hlF.trans hG.base; refine vc_sr ?_; refine vr 1 ?_; refine vco_k [1, 2, 6, 8, 73, 74, 75] ?_; refine vc_seq ?_; refine vc_cond rfl (fun hb => ?_) (fun hb => ?_)
      ·
       have hiv : i < vs.length := by simpa using hb
       obtain ⟨q, hq⟩ : ∃ q, vs[i]? = some q := ⟨_, List.getElem?_eq_getElem hiv⟩; obtain ⟨o, hoi⟩ : ∃ o, os[i]? = some o := ⟨_, List.getElem?_eq_getElem (by omega)⟩
       have hz : ((os.zip vs).map ZF)[i]? = some (o, 2, q) := by rw [List.getElem?_map, zip_get hoi hq]; rfl
       have ho5 := ho4 o (List.mem_of_getElem? hoi); obtain ⟨f1, B1, k1, e1, B2, k2, e2, hsg, hraw, hqx⟩ := SlV.seg3 hev hq; obtain ⟨Bo, cb, hbx, hsl⟩ := vec_get hxo hoi; have hzb := hraw.size; refine vc_skip ?_; refine vc_keep [1, 2, 6, 8, 73, 74] rfl ?_; refine vc_seq ?_; refine vc_block ?_; refine vc_sr ?_; refine vr 2 ?_; refine vco_k [1, 2, 6, 8, 10, 73, 74] ?_; refine vc_draw .drawB [0, 1, 2, 3, 4, 5, 7, 8, 9, 10, 6, 11, 12, 13, 14, 15, 16] follows (by kernel_rfl) ?_; refine vr 4 ?_; refine vco_at tbOk rfl rfl rfl rfl rfl ((hro.le hb2).le (rem_le _ _)) (by rw [Int.toNat_natCast]; exact hbx) (by omega) (by omega) fun _ => ?_; refine vr 2 ?_; refine vco_at_st (vs := [.bool f1, .slice B1 k1 e1, .slice B2 k2 e2]) tbOk rfl rfl rfl rfl ((hrv.le hb2).le (rem_le _ _)) rfl (by decide) hqx (by omega) (by omega) fun _ => ?_; refine vco_callM rfl rfl (hG.call (rcans_ok (hsl.le (ratUp N) hb2) (by omega) (by omega))) (fun _ _ h => h.le fun _ _ h => h.1) ?_; rintro _ H5 hF5; have hG5 := hG.framed (rowUp (N + 2)) hF5 fun _ _ h => h.1; obtain ⟨⟨_, A5, c5, rfl, hs5⟩, _⟩ := hF5; refine vco_callM rfl rfl (hG5.call (rCanonical_ok (hraw.le (hlF.trans hG5.base)) (by omega))) (fun _ _ h => h.le fun _ _ h => h.1) ?_; rintro _ H6 hF6; have hG6 := hG5.framed (rowUp (N + 2)) hF6 fun _ _ h => h.1; obtain ⟨⟨hl56, hq6⟩, _⟩ := hF6; obtain ⟨f6, A61, m61, c61, A62, m62, c62, rfl⟩ := hq6.form; have hRow : RowP (N + 2) (rem H6 (blk (.slice W (p.rows ++ ((os.zip vs).map ZF).take i).length cw))) [.slice A5 o.length c5, .int .i64 2, .bool f6, .slice A61 m61 c61, .slice A62 m62 c62] (o, 2, q) := ⟨_, _, _, _, rfl, hs5.le (ratUp (N + 2)) hl56, (CanV.raw hq6).mono (by omega)⟩
       refine vco_st tbOk rfl el63 rfl rfl ?_; refine vco_build Tryz.underlying23 el63 rfl rfl rfl rfl rfl rfl rfl ?_; intro gd hgd; have hG7 := hG6.ins (rowUp (N + 2)) (whole (cellsL [.agg #[.slice A5 o.length c5, .int .i64 2, .bool f6, .slice A61 m61 c61, .slice A62 m62 c62]]) 63) hgd; refine vco_append Tryz.underlying23 el63 rfl rfl hG7.own (rd_ins _ _ _ _ _ _) rfl (one_row _ _ _ _ _ _ _ _ _ _ _) (by rw [htl]; omega) (by rw [htl]; omega) ?_; intro v8 H8 ha8; have hG8 := hG7.append (rowUp (N + 2)) (k := [(o, 2, q)]) (by simp) ha8 (els_one (rowUp (N + 2) _ _ _ _ (rem_mono _ (Heap.le_ins _ hgd)) hRow) rfl); obtain ⟨F8, g8, rfl⟩ := hG8.form; refine vr 1 ?_; obtain ⟨ti, hti, htz⟩ := sz23; refine vco_bstore (.inr rfl) rfl rfl rfl hti htz rfl rfl rfl ?_; refine vco_end ?_; refine vc_keep [1, 2, 6, 8, 73, 74] rfl ?_; refine vc_region rfl ?_; refine vco_add rfl rfl ⟨by omega, by omega⟩ ?_; refine vr 1 ?_; refine vco_end ?_; exact ⟨i + 1, _, _, by omega, sub_auto, by rw [take_snoc hz, ← List.append_assoc]; exact hG8, by omega⟩
      ·
       have hb : vs.length ≤ i := by simpa using hb
       obtain rfl : i = vs.length := by omega
       have hzl : ((os.zip vs).map ZF).length = vs.length := by rw [List.length_map, List.length_zip]; omega
       have hR := hG.sl (rowUp (N + 2)); have e9 : ((os.zip vs).map ZF).take vs.length = (os.zip vs).map ZF := List.take_of_length_le (by omega); rw [e9] at hR ⊢; refine vc_exit ?_; refine vc_keep [6, 8] rfl ?_; refine vc_sr ?_; refine vr 1 ?_; obtain ⟨ti, hti, htz⟩ := sz25; refine vco_bstore (.inl ⟨rfl, rfl⟩) rfl rfl rfl hti htz rfl rfl rfl ?_; refine vr 1 ?_; refine vco_k [6, 7] ?_; obtain ⟨ri0, rhi0, rhz0⟩ := sz25; refine vc_ret ⟨.inr rfl, _, .agg rfl Tryz.underlying25 rhi0 rhz0 (.tmp rfl (.nil)), ?_⟩; exact ⟨hlF.trans hG.le, _, _, _, _, _, _, 0, rfl, .inr (.inr (.inr ⟨hok, ⟨hvec, by omega⟩, by omega, rfl⟩)), _, _, rfl, (hfc.le boolUp hG.le), by rw [show (extQ p os vs 0).rows = p.rows ++ (os.zip vs).map ZF from rfl]; exact hR⟩
theorem extends_ok {H : Heap} {v ov vv : Value} {p : Prg} {os : List (List Rat)} {vs : List Rat} {N : Nat} (hp : ProgV N H v p) (ho : LsV N H ov os) (hv : SlV (RatP N) 3 H vv vs) (hol : os.length ≤ 9223372036854775807) :
  Fn Tryz.prog 9 #[v, ov, vv] H (fun v H' => Heap.le H H' ∧ v = .bool true) := by
 obtain ⟨fv, rv0, rfl, hfv, hrv0⟩ := id hp
 obtain ⟨Af, cf, xf, rfl, hrF, hxF⟩ := hfv.one
 obtain ⟨Ar, cr, xr, rfl, hcr, hrR, hxR⟩ := id hrv0
 obtain ⟨Ao, co, xo, rfl, hco, hro, hxo⟩ := id ho
 obtain ⟨Av, cv, xv, rfl, hcv, hrv, hev⟩ := id hv; refine fn_intro (args := [_, _, _]) Tryz.func9 rfl rfl Tryz.ntmps9 rfl rfl fun w0 => ?_; refine vc_keep [0, 1, 2] rfl ?_; refine vc_sr ?_; refine vco_box rfl rfl ?_; refine vr 1 ?_; refine vco_k [1, 2, 3] ?_; refine vc_seq ?_; refine vc_sr ?_; refine vco_call rfl rfl (sane3_ok) ?_; rintro _ H1 ⟨hl1, rfl⟩; refine vr 1 ?_; refine vco_k [1, 2, 3, 12] ?_; refine vc_cond_f rfl ?_; refine vc_skip ?_; refine vc_keep [1, 2, 3] rfl ?_; refine vc_seq ?_; refine vc_sr ?_; refine vr 2 ?_; refine vco_call rfl rfl (kept3_ok (hp.le hl1) (ho.le (vecUp N) hl1)) ?_; rintro _ H2 ⟨e2, b2, rfl, hb2⟩; rw [e2]
 cases b2
 ·
  skip
  refine vr 6 ?_; refine vco_k [1, 2, 3, 21] ?_; refine vc_cond_t rfl ?_; refine vc_sr ?_; refine vr 1 ?_; refine vco_k [6] ?_; refine vc_ret ⟨.inr rfl, _, .tmp rfl (.nil), ?_⟩; exact ⟨hl1, rfl⟩
 ·
  skip
  refine vr 3 ?_; refine vco_call rfl rfl (kRats_ok (n := 6) (hv.le (ratUp N) hl1) (by decide)) ?_; rintro _ H3 ⟨e3, b3, rfl, hb3⟩; rw [e3]; refine vr 2 ?_; refine vco_k [1, 2, 3, 21] ?_; refine vc_cond rfl (fun hb => ?_) (fun hb => ?_)
  ·
   skip
   refine vc_sr ?_; refine vr 1 ?_; refine vco_k [6] ?_; refine vc_ret ⟨.inr rfl, _, .tmp rfl (.nil), ?_⟩; exact ⟨hl1, rfl⟩
  ·
   have hk := hb2 rfl; obtain ⟨hv6, hv2⟩ := hb3 (by simpa using hb); have hlev := hk.len; refine vc_skip ?_; refine vc_keep [1, 2, 3] rfl ?_; refine vc_sr ?_; refine vr 3 ?_; refine vco_call rfl rfl (lexExt_ok (N := 2) hk.sml.prog hk.obj hv2 hol (by omega) (by decide)) ?_; rintro _ H4 ⟨hl4, Q1, k1, d1, Q2, k2, d2, e, rfl, hE, hq⟩; refine vr 3 ?_; refine vco_alloc el25 rfl ?_; obtain ⟨ti, hti, htz⟩ := sz25; refine vco_bstore (.inl ⟨rfl, rfl⟩) rfl rfl rfl hti htz rfl rfl rfl ?_; refine vr 1 ?_; refine vco_k [1, 2, 3, 7, 8] ?_; refine vc_sr ?_; refine vr 3 ?_; refine vco_call rfl rfl (rExt_ok (N := 2) (hk.sml.prog.le hl4) (hk.obj.le (vecUp 2) hl4) (hv2.le (ratUp 2) hl4) hol (by omega) (by decide)) ?_; rintro _ H5 ⟨hl5, R1, j1, g1, R2, j2, g2, e', rfl, hE', hr⟩; obtain rfl := extE_unique hE hE'; refine vr 3 ?_; refine vco_alloc el25 rfl ?_; obtain ⟨ti, hti, htz⟩ := sz25; refine vco_bstore (.inl ⟨rfl, rfl⟩) rfl rfl rfl hti htz rfl rfl rfl ?_; refine vr 1 ?_; refine vco_k [7, 8, 9, 10] ?_; refine vc_sr ?_; refine vr 2 ?_; refine vco_cmp true rfl rfl (ceq_t rfl) ?_; refine vr 3 ?_; refine vco_call rfl rfl (sameProg_ok (N := 4) (hq.le hl5) hr hE.ok (by decide)) ?_; rintro _ H6 ⟨hl6, rfl⟩; refine vr 2 ?_; refine vco_k [6] ?_; refine vc_ret ⟨.inr rfl, _, .tmp rfl (.nil), ?_⟩; exact ⟨hl1.trans (hl4.trans (hl5.trans hl6)), rfl⟩
end Go.Eng
