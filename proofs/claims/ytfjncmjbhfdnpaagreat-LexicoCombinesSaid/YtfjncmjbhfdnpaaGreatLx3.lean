/- Walks over package lexico, part 3: feasible, Minimize. -/
import Derived.Test.YtfjncmjbhfdnpaaGreatA10
import Derived.Test.YtfjncmjbhfdnpaaGreatLx2
import Derived.Test.YtfjncmjbhfdnpaaGreatLxz
set_option linter.unusedVariables false
namespace Go.Eng
open Go.Proofs Num Lp
abbrev KX : Nat := 200000000
/-- A result of simplex, its cells written out. -/
def SolK (K : Nat) (H : Heap) (s : Value) (S : Soln) : Prop := ∃ f A1 m1 c1 A2 m2 c2 Ax cx Ad cd Ar cr, s = .agg #[.int .i64 S.status, .bool f, .slice A1 m1 c1, .slice A2 m2 c2, .slice Ax S.x.length cx, .slice Ad S.dual.length cd, .slice Ar S.ray.length cr] ∧ RawV H (.agg #[.bool f, .slice A1 m1 c1, .slice A2 m2 c2]) S.value K ∧ SlV (RatP K) 3 H (.slice Ax S.x.length cx) S.x ∧ SlV (RatP K) 3 H (.slice Ad S.dual.length cd) S.dual ∧ SlV (RatP K) 3 H (.slice Ar S.ray.length cr) S.ray
theorem SolV.k {K : Nat} {H : Heap} {s : Value} {S : Soln} (h : SolV H s S) (hz : SolZ K S) : SolK K H s S := by
  obtain ⟨f, u, w, xv, dv, rv, rfl, h4, h5, h6, h7⟩ := h
  obtain ⟨Ax, cx, _, rfl, _⟩ := id h5
  obtain ⟨Ad, cd, _, rfl, _⟩ := id h6
  obtain ⟨Ar, cr, _, rfl, _⟩ := id h7
  have hx := h5.can_rat fun q hq => hz q (.inl hq)
  have hd := h6.can_rat fun q hq => hz q (.inr (.inl hq))
  have hr := h7.can_rat fun q hq => hz q (.inr (.inr (.inl hq)))
  rcases h4 with h4 | ⟨h4, rfl, rfl, rfl⟩
  · obtain ⟨u', w', e, hu, hw⟩ := id h4
    have e' := arr3 (vs := [.bool f, u, w]) e
    simp only [List.cons.injEq, and_true] at e'
    obtain ⟨_, rfl, rfl⟩ := e'
    obtain ⟨A1, c1, rfl, _⟩ := id hu
    obtain ⟨A2, c2, rfl, _⟩ := id hw
    exact ⟨_, _, _, _, _, _, _, _, _, _, _, _, _, rfl, (CanV.raw h4).mono (hz _ (.inr (.inr (.inr rfl)))), hx, hd, hr⟩
  · exact ⟨_, _, _, _, _, _, _, _, _, _, _, _, _, rfl, by rw [h4]; exact rawV_zero, hx, hd, hr⟩
/-- What Minimize of simplex gives for a valid program. -/
def MinK (p : Prg) (c : List Rat) (H : Heap) (v : Value) (H' : Heap) : Prop := Heap.le H H' ∧ ∃ S f A1 m1 c1 A2 m2 c2 Ax cx Ad cd Ar cr, v = .tuple #[.agg #[.int .i64 S.status, .bool f, .slice A1 m1 c1, .slice A2 m2 c2, .slice Ax S.x.length cx, .slice Ad S.dual.length cd, .slice Ar S.ray.length cr], .int .i64 0] ∧ Chk p c S ∧ Last p c S ∧ RawV H' (.agg #[.bool f, .slice A1 m1 c1, .slice A2 m2 c2]) S.value KX ∧ SlV (RatP KX) 3 H' (.slice Ax S.x.length cx) S.x ∧ SlV (RatP KX) 3 H' (.slice Ad S.dual.length cd) S.dual ∧ SlV (RatP KX) 3 H' (.slice Ar S.ray.length cr) S.ray
theorem minK_ok {N M : Nat} {H : Heap} {v cv : Value} {p : Prg} {c : List Rat} (hp : ProgV N H v p) (hc : SlV (RatP N) 3 H cv c) (hN : N ≤ 400000000) (hok : p.Ok) (hlen : c.length = p.free.length) (hf : Fits p c M) (hM : M ≤ 99999998) : Fn Tryz.prog 12 #[v, cv] H (MinK p c H) := by
  have hn := hok.cols
  refine (Minimize_ok hp hc hf (by omega) (by omega) (by omega)).mono ?_
  rintro v' H' ⟨hl, s, e, rfl, h3⟩
  rcases h3 with h3 | h3 | ⟨_, _, rfl, S, k4, k5, k6, k7⟩
  · exact absurd hok h3.1
  · exact absurd hlen h3.2.1
  · obtain ⟨f, A1, m1, c1, A2, m2, c2, Ax, cx, Ad, cd, Ar, cr, rfl, g1, g2, g3, g4⟩ := k4.k (K := KX) (fun q hq => Nat.le_trans (k6 q hq) (by show _ ≤ 200000000; omega))
    exact ⟨hl, S, f, A1, m1, c1, A2, m2, c2, Ax, cx, Ad, cd, Ar, cr, rfl, k5, k7, g1, g2, g3, g4⟩
theorem MinK.le {p : Prg} {c : List Rat} {H : Heap} {v : Value} {H' : Heap} (h : MinK p c H v H') : Heap.le H H' := h.1
/-- A result of lexico in memory. -/
def LexV (H : Heap) (v : Value) (S : LexS) : Prop := ∃ A1 c1 A2 c2 A3 c3 A4 c4, v = .agg #[.int .i64 S.status, .slice A1 S.values.length c1, .slice A2 S.x.length c2, .slice A3 S.duals.length c3, .slice A4 S.ray.length c4] ∧ SlV (RatP KX) 3 H (.slice A1 S.values.length c1) S.values ∧ SlV (RatP KX) 3 H (.slice A2 S.x.length c2) S.x ∧ LsV KX H (.slice A3 S.duals.length c3) S.duals ∧ SlV (RatP KX) 3 H (.slice A4 S.ray.length c4) S.ray
def lex0 : Value := .agg #[.int .i64 0, .slice none 0 0, .slice none 0 0, .slice none 0 0, .slice none 0 0]
def LexP (p : Prg) (os : List (List Rat)) (H : Heap) (v : Value) (H' : Heap) : Prop := Heap.le H H' ∧ ∃ s e, v = .tuple #[s, .int .i64 e] ∧ LexE p os e ∧ ((e ≠ 0 ∧ s = lex0) ∨ (e = 0 ∧ ∃ S, LexV H' s S ∧ ChkLex p os S))
theorem made_zero {N : Nat} {H : Heap} {g k : Nat} : SlV (RatP N) 3 (ins H g ⟨madeL [.bool false, .slice none 0 0, .slice none 0 0] ((k : Int).toNat * 3), (k : Int).toNat * 3, 31, true⟩) (.slice (some ⟨g, 0, none⟩) (k : Int).toNat (k : Int).toNat) (List.replicate k 0) := by
  rw [Int.toNat_natCast]
  exact ⟨_, k, _, by rw [List.length_replicate], by rw [List.length_replicate]; exact Nat.le_refl _, rd_ins _ _ _ _ _ _, els_made (P := RatP N _) rfl rawV_zero k⟩
theorem fn_rep (k j : Nat) : fn (List.replicate k 0) j = 0 := by
  unfold fn
  rw [List.getD, List.getElem?_replicate]
  split <;> rfl
theorem Gro2.rebase {α β : Type} {P : Heap → List Value → α → Prop} {e sz : Nat} {Q : Heap → List Value → β → Prop} {e' sz' : Nat} {Hb H : Heap} {v u : Value} {l : List α} {xs : List Value} {k : List β} {ys : List Value} (h : Gro2 P e sz Q e' sz' Hb H v l xs u k ys) : Gro2 P e sz Q e' sz' (rem H (blk v ++ blk u)) H v l xs u k ys := ⟨h.own, h.own', h.els, h.els', .refl _, h.apart⟩
theorem Gro2.down {α β : Type} {P : Heap → List Value → α → Prop} {e sz : Nat} {Q : Heap → List Value → β → Prop} {e' sz' : Nat} {Hb Hc H : Heap} {v u : Value} {l : List α} {xs : List Value} {k : List β} {ys : List Value} (h : Gro2 P e sz Q e' sz' Hb H v l xs u k ys) (hl : Heap.le Hc Hb) : Gro2 P e sz Q e' sz' Hc H v l xs u k ys := ⟨h.own, h.own', h.els, h.els', hl.trans h.base, h.apart⟩
/-- What holds before level i. -/
structure LexI (p : Prg) (os : List (List Rat)) (E f0 : Nat) (H H' : Heap) (i : Nat) (w : Value × Value × Value) (z : List Value × List Value) (a : List Rat × List (List Rat) × List Rat) : Prop where
  gro : Gro2 (RatP KX) 31 3 (VecP KX) 26 1 H H' w.1 a.1 z.1 w.2.1 a.2.1 z.2
  xv : ∃ A c, w.2.2 = .slice A a.2.2.length c ∧ SlV (RatP KX) 3 (rem H' (blk w.1 ++ blk w.2.1)) (.slice A a.2.2.length c) a.2.2
  vl : a.1.length = i
  dl : a.2.1.length = i
  le : i ≤ os.length
  lvc : ∀ (j : Nat) (o : List Rat) (v : Rat) (d : List Rat), os[j]? = some o → a.1[j]? = some v → a.2.1[j]? = some d → LvC (extP p os (a.1.take j)) o v d
  feas : 0 < i → (extP p os a.1).lp.Meets 1 (fn a.2.2) ∧ a.2.2.length = p.free.length
  bin : ∃ D, BIn D (f0 + i * E) (extP p os a.1)
theorem RowsLe {N : Nat} {H : Heap} {v : Value} {p : Prg} (h : p.Ok) : ∀ r, r ∈ p.rows → r.1.length ≤ 1000 := fun r hr => by
  obtain ⟨i, hi⟩ := List.getElem?_of_mem hr
  have h1 := (h.row i r hi).1
  have h2 := h.cols
  omega
theorem LsV.mono {N M : Nat} {H : Heap} {v : Value} {ls : List (List Rat)} (h : LsV N H v ls) (hl : N ≤ M) : LsV M H v ls := SlV.mono h fun _ _ ⟨A, c, h1, h2⟩ => ⟨A, c, h1, SlV.mono h2 fun _ _ h => RatP.mono h hl⟩
theorem feasible_ok {H : Heap} {v : Value} {p : Prg} {N E f0 : Nat} (hp : ProgV N H v p) (hN : N ≤ KX) (hok : p.Ok) (hsz : LexSz p [] E f0) :
  Fn Tryz.prog 72 #[v] H (fun v' H' => Heap.le H H' ∧ ∃ s, v' = .tuple #[s, .int .i64 0] ∧ ∃ S, LexV H' s S ∧ ChkLex p [] S) := by
 obtain ⟨fv, rv0, rfl, hfv, hrv0⟩ := id hp
 obtain ⟨Af, cf, xf, rfl, hrF, hxF⟩ := hfv.one
 obtain ⟨Ar, cr, xr, rfl, hcr, hrR, hxR⟩ := id hrv0
 have hn4 := hok.cols
 have hNK : N ≤ 200000000 := hN; refine fn_intro (args := [_]) Tryz.func72 rfl rfl Tryz.ntmps72 rfl rfl fun w0 => ?_; refine vc_keep [0] rfl ?_; refine vc_sr ?_; refine vco_box rfl rfl ?_; refine vco_alloc el43 rfl ?_; refine vr 1 ?_; refine vco_k [1, 2] ?_; refine vc_sd .drawB [0, 1, 2, 3, 4, 5, 6, 7, 8, 9, 10, 11] follows (by kernel_rfl) ?_; refine vr 4 ?_; refine vco_make Tryz.underlying26 el31 rfl rfl rfl (by omega) (by omega) (by omega) (by omega) ?_; intro g hg; have hle := Heap.le_ins ⟨madeL [.bool false, .slice none 0 0, .slice none 0 0] ((p.free.length : Int).toNat * 3), (p.free.length : Int).toNat * 3, 31, true⟩ hg; obtain ⟨D0, hD0⟩ := hsz.bin; obtain ⟨M, hfit, hM⟩ := hsz.fit (vs := []) (o := List.replicate p.free.length 0) (Nat.zero_le _) (.inr (fn_rep _)) (by rw [ext_nil]; exact hD0); rw [ext_nil] at hfit; have htot := hsz.tot
 simp only [List.length_nil, Nat.zero_add, Nat.one_mul] at htot
 refine vco_callM rfl rfl (minK_ok (N := N) (hp.le hle) made_zero (by omega) hok (by rw [List.length_replicate]) hfit (by omega)) (fun _ _ h => by first | exact h.le | exact h.1) ?_; rintro _ H2 ⟨hl2, S, f2, B21, m21, e21, B22, m22, e22, B2x, e2x, B2d, e2d, B2r, e2r, rfl, hchk, hlast, hval, hsx, hsd, hsr⟩; refine vr 3 ?_; refine vco_alloc el33 rfl ?_; obtain ⟨ti, hti, htz⟩ := sz33; refine vco_bstore (.inl ⟨rfl, rfl⟩) rfl rfl rfl hti htz rfl rfl rfl ?_; refine vr 1 ?_; refine vco_k [2, 4, 5] ?_; refine vc_seq ?_; refine vc_sr ?_; refine vr 2 ?_; refine vco_k [2, 4, 5, 16] ?_; refine vc_cond_f rfl ?_; refine vc_skip ?_; refine vc_keep [2, 4] rfl ?_; refine vc_seq ?_; refine vc_sr ?_; refine vr 3 ?_; refine vco_k [2, 4, 21] ?_; refine vc_cond rfl (fun hb => ?_) (fun hb => ?_)
 ·
  have h2 : S.status = 2 := by simpa using hb
  obtain ⟨k1, k2, k3, k4, k5⟩ := hchk.at2 h2; refine vc_sr ?_; refine vr 2 ?_; refine vco_build Tryz.underlying40 el26 rfl rfl rfl rfl rfl rfl rfl ?_; intro gb hgb; have hle2 := Heap.le_ins (whole (cellsL [.slice B2d S.dual.length e2d]) 26) hgb; refine vco_st tbOk rfl el43 rfl rfl ?_; obtain ⟨ti, hti, htz⟩ := sz43; refine vco_bstore (.inl ⟨rfl, rfl⟩) rfl rfl rfl hti htz rfl rfl rfl ?_; refine vr 1 ?_; refine vco_k [2, 3] ?_; obtain ⟨ri0, rhi0, rhz0⟩ := sz43; refine vc_ret ⟨.inr rfl, _, .agg rfl Tryz.underlying43 rhi0 rhz0 (.tmp rfl (.nil)), ?_⟩; refine ⟨hle.trans (hl2.trans hle2), _, rfl, ⟨2, [], [], [S.dual], []⟩, ⟨_, _, _, _, _, _, _, _, rfl, slV_nil, slV_nil, ?_, slV_nil⟩, .inr (.inl ⟨rfl, rfl, rfl, rfl, _, rfl, k5⟩)⟩; exact ⟨_, 1, _, rfl, Nat.le_refl _, rd_ins _ _ _ _ _ _, els_one (P := VecP KX _) (vs := [.slice B2d S.dual.length e2d]) ⟨_, _, rfl, hsd.le (ratUp KX) hle2⟩ rfl⟩
 ·
  have h2 : ¬ S.status = 2 := by simpa using hb
  have hfeas : PFeas p S.x := by
   rcases hchk with h9 | h9 | h9
   · exact h9.2.2.1.feas
   · exact absurd h9.1 h2
   · exact h9.2.2.2.feas
  refine vc_skip ?_; refine vc_keep [2, 4] rfl ?_; refine vc_sr ?_; refine vr 2 ?_; refine vco_st tbOk rfl el43 rfl rfl ?_; obtain ⟨ti, hti, htz⟩ := sz43; refine vco_bstore (.inl ⟨rfl, rfl⟩) rfl rfl rfl hti htz rfl rfl rfl ?_; refine vr 1 ?_; refine vco_k [2, 3] ?_; obtain ⟨ri0, rhi0, rhz0⟩ := sz43; refine vc_ret ⟨.inr rfl, _, .agg rfl Tryz.underlying43 rhi0 rhz0 (.tmp rfl (.nil)), ?_⟩; exact ⟨hle.trans hl2, _, rfl, ⟨1, [], S.x, [], []⟩, ⟨_, _, _, _, _, _, _, _, rfl, slV_nil, hsx, slV_nil, slV_nil⟩, .inl ⟨rfl, rfl, rfl, hfeas, rfl, Nat.le_refl _, fun i o v d h1 => by simp at h1⟩⟩
theorem lexMin_ok {H : Heap} {v ov : Value} {p : Prg} {os : List (List Rat)} {N E f0 : Nat} (hp : ProgV N H v p) (ho : LsV N H ov os) (hN : N ≤ KX) (hol : os.length ≤ 9223372036854775807) (hsz : LexFine p os → LexSz p os E f0) :
  Fn Tryz.prog 17 #[v, ov] H (LexP p os H) := by
 obtain ⟨fv, rv0, rfl, hfv, hrv0⟩ := id hp
 obtain ⟨Af, cf, xf, rfl, hrF, hxF⟩ := hfv.one
 obtain ⟨Ar, cr, xr, rfl, hcr, hrR, hxR⟩ := id hrv0
 obtain ⟨Ao, co, xo, rfl, hco, hro, hxo⟩ := id ho
 have hNK : N ≤ 200000000 := hN; refine fn_intro (args := [_, _]) Tryz.func17 rfl rfl Tryz.ntmps17 rfl rfl fun w0 => ?_; refine vc_keep [0, 1] rfl ?_; refine vc_sr ?_; refine vco_box rfl rfl ?_; refine vco_alloc el43 rfl ?_; refine vr 1 ?_; refine vco_k [1, 2, 4] ?_; refine vc_seq ?_; refine vc_sr ?_; refine vr 2 ?_; refine vco_call rfl rfl (refusal_ok hp ho hol) ?_; rintro _ H1 ⟨e1, er, rfl, hE⟩; rw [e1]; refine vr 1 ?_; refine vco_k [1, 2, 4, 6] ?_; refine vc_sr ?_; refine vr 2 ?_; refine vco_k [1, 2, 4, 6, 16] ?_; refine vc_cond rfl (fun hb => ?_) (fun hb => ?_)
 ·
  have h1 : ¬ er = 0 := by simpa using hb
  refine vc_sr ?_; refine vco_st tbOk rfl el43 rfl rfl ?_; refine vr 1 ?_; obtain ⟨ti, hti, htz⟩ := sz43; refine vco_bstore (.inl ⟨rfl, rfl⟩) rfl rfl rfl hti htz rfl rfl rfl ?_; refine vr 1 ?_; refine vco_k [4, 5] ?_; obtain ⟨ri0, rhi0, rhz0⟩ := sz43; refine vc_ret ⟨.inr rfl, _, .agg rfl Tryz.underlying43 rhi0 rhz0 (.tmp rfl (.nil)), ?_⟩; exact ⟨.refl _, _, er, rfl, hE, .inl ⟨h1, rfl⟩⟩
 ·
  have h1 : er = 0 := by simpa using hb
  subst h1; have hf := hE.fine; have hok := hf.ok; have hn4 := hok.cols; have hm8 := hok.rows; have hlev := hf.lev; have hrws := hf.rows; have hz := hsz hf; have htot := hz.tot; refine vc_skip ?_; refine vc_keep [1, 2, 4] rfl ?_; refine vc_seq ?_; refine vc_sr ?_; refine vr 3 ?_; refine vco_k [1, 2, 4, 21] ?_; refine vc_cond rfl (fun hb => ?_) (fun hb => ?_)
  ·
   have h2 : (os.length : Int) = 0 := by simpa using hb
   have h3 : os = [] := List.length_eq_zero_iff.1 (by omega); subst h3; refine vc_sr ?_; refine vr 1 ?_; refine vco_call rfl rfl (feasible_ok hp hN hok hz) ?_; rintro _ H2 ⟨hl2, s, rfl, S, ⟨A1, c1, A2, c2, A3, c3, A4, c4, rfl, hv1, hv2, hv3, hv4⟩, hchk⟩; refine vr 2 ?_; obtain ⟨ti, hti, htz⟩ := sz43; refine vco_bstore (.inl ⟨rfl, rfl⟩) rfl rfl rfl hti htz rfl rfl rfl ?_; refine vr 1 ?_; refine vco_k [4, 5] ?_; obtain ⟨ri0, rhi0, rhz0⟩ := sz43; refine vc_ret ⟨.inr rfl, _, .agg rfl Tryz.underlying43 rhi0 rhz0 (.tmp rfl (.nil)), ?_⟩; exact ⟨hl2, _, 0, rfl, hE, .inr ⟨rfl, S, ⟨A1, c1, A2, c2, A3, c3, A4, c4, rfl, hv1, hv2, hv3, hv4⟩, hchk⟩⟩
  ·
   have h2 : ¬ (os.length : Int) = 0 := by simpa using hb
   have hpK := hp.mono hN; have hoK := ho.mono hN; refine vc_skip ?_; refine vc_keep [1, 2, 4] rfl ?_; refine vc_sr ?_; refine vco_alloc el43 rfl ?_; refine vco_k [1, 2, 4, 7] ?_; refine vc_seq ?_; refine vc_sr ?_; refine vr 3 ?_; refine vco_k [1, 2, 4, 7, 26, 27, 28] ?_; refine vc_block ?_; refine vc_loop4 (fun (i : Nat) (w : Value × Value × Value) (z : List Value × List Value) (a : List Rat × List (List Rat) × List Rat) => os.length - i) (fun (i : Nat) (w : Value × Value × Value) (z : List Value × List Value) (a : List Rat × List (List Rat) × List Rat) => put (put (put (put (put (put (put (emp) 1 (.val (.slice Ao os.length co))) 2 (.box [.slice Af p.free.length cf, .slice Ar p.rows.length cr])) 4 (.box [.int .i64 0, .slice none 0 0, .slice none 0 0, .slice none 0 0, .slice none 0 0])) 7 (.box [.int .i64 0, w.1, w.2.2, w.2.1, .slice none 0 0])) 26 (.val (.slice Ao os.length co))) 27 (.val (.int .i64 (os.length : Int)))) 28 (.val (.int .i64 (i : Int)))) (fun (i : Nat) (w : Value × Value × Value) (z : List Value × List Value) (a : List Rat × List (List Rat) × List Rat) H' => LexI p os E f0 H H' i w z a) 0 (.slice none 0 0, .slice none 0 0, .slice none 0 0) ([], []) ([], [], []) (⟨(gro_nil H).two, ⟨none, 0, rfl, slV_nil⟩, rfl, rfl, Nat.zero_le _, (fun j o v d _ h => by simp at h), (fun h => by omega), by obtain ⟨D, hD⟩ := hz.bin; exact ⟨D, by rw [Nat.zero_mul, Nat.add_zero, ext_nil]; exact hD⟩⟩) sub_auto ?_; rintro i w z a H2 hI; obtain ⟨w1, w2, wx⟩ := w; obtain ⟨z1, z2⟩ := z
   obtain ⟨a1, a2, a3⟩ := a; have hG := hI.gro; have hvl := hI.vl; have hdl := hI.dl; have hile := hI.le
   simp only at hG hvl hdl
   obtain ⟨AX, cX, eX, hX⟩ := hI.xv
   simp only at eX hX
   subst eX; obtain ⟨D1, d1, rfl⟩ := hG.form; obtain ⟨D2, d2, rfl⟩ := hG.form'; refine vc_sr ?_; refine vr 1 ?_; refine vco_k [1, 2, 4, 7, 26, 27, 28, 29] ?_; refine vc_seq ?_; refine vc_cond rfl (fun hb => ?_) (fun hb => ?_)
   ·
    have hio : i < os.length := by simpa using hb
    obtain ⟨o, hoi⟩ : ∃ o, os[i]? = some o := ⟨_, List.getElem?_eq_getElem hio⟩
    have hoi' : os[a1.length]? = some o := by rw [hvl]; exact hoi
    obtain ⟨Bo, cb, hbx, hsl⟩ := vec_get hxo hoi; have hom := List.mem_of_getElem? hoi; have hoc := hf.vec o hom; obtain ⟨D0, hD0⟩ := hI.bin; obtain ⟨M, hfit, hM⟩ := hz.fit (vs := a1) (o := o) (by omega) (.inl hom) hD0
    have hMb : M ≤ 99999998 := by
     have h9 : i * E + E ≤ (os.length + 1) * E := by rw [← Nat.succ_mul]; exact Nat.mul_le_mul_right _ (by omega)
     omega
    have hokx : (extP p os a1).Ok := ext_ok hok hf.vec (by omega); refine vc_skip ?_; refine vc_keep [1, 2, 4, 7, 26, 27, 28] rfl ?_; refine vc_seq ?_; refine vc_block ?_; refine vc_sr ?_; refine vco_at tbOk rfl rfl rfl rfl rfl (hro.le hG.le) (by rw [Int.toNat_natCast]; exact hbx) (by omega) (by omega) fun _ => ?_; refine vr 1 ?_; refine vco_k [1, 2, 4, 7, 9, 26, 27, 28] ?_; refine vc_sr ?_; refine vr 4 ?_; refine vco_call rfl rfl (extend_ok (gs := (blk (.slice D1 a1.length d1) ++ blk (.slice D2 a2.length d2))) (N := KX) hG.blkne (hpK.le hG.base) (hoK.le (vecUp KX) hG.base) hG.own.rd hG.els (by omega) hn4 hm8 (RowsLe (N := 0) (H := H) (v := .bool true) hok) (fun o h => by have h9 := hf.vec o h; omega) (by omega) (by decide)) ?_; rintro _ H3 ⟨hfz, Q1, q1, u1, Q2, q2, u2, rfl, hq⟩; have hG3 := hG.rebase.step (ratUp KX) (vecUp KX) hfz.same hfz.le; refine vr 1 ?_; refine vco_call rfl rfl (Fn.frame hG3.blkne (minK_ok (N := KX + 2) hq ((hsl.mono fun _ _ h => RatP.mono h (show N ≤ KX + 2 by show N ≤ 200000002; omega)).le (ratUp (KX + 2)) (hG.base.trans hG3.base)) (by decide) hokx hoc hfit hMb)) ?_; rintro _ H4 ⟨⟨hl4, S, f4, B41, m41, e41, B42, m42, e42, B4x, e4x, B4d, e4d, B4r, e4r, rfl, hchk, hlast, hval, hsx, hsd, hsr⟩, hs4⟩; have hG4 := (hG3.step (ratUp KX) (vecUp KX) hs4 hl4).down hG.base; refine vr 3 ?_; refine vco_alloc el33 rfl ?_; obtain ⟨ti, hti, htz⟩ := sz33; refine vco_bstore (.inl ⟨rfl, rfl⟩) rfl rfl rfl hti htz rfl rfl rfl ?_
    refine vr 1 ?_; refine vco_k [1, 2, 4, 7, 10, 11, 26, 27, 28] ?_; refine vc_seq ?_; refine vc_sr ?_; refine vr 2 ?_; refine vco_k [1, 2, 4, 7, 10, 11, 26, 27, 28, 43] ?_; refine vc_cond_f rfl ?_; refine vc_skip ?_; refine vc_keep [1, 2, 4, 7, 10, 26, 27, 28] rfl ?_; refine vc_seq ?_; refine vc_sr ?_; refine vr 2 ?_; refine vco_k [1, 2, 4, 7, 10, 26, 27, 28, 47] ?_; refine vc_block ?_; refine vc_sr ?_; refine vr 2 ?_; refine vco_k [1, 2, 4, 7, 10, 26, 27, 28, 47, 48] ?_; refine vc_cond rfl (fun hb => ?_) (fun hb => ?_)
    ·
     have h2 : S.status = 2 := by simpa using hb
     obtain ⟨k1, k2, k3, k4, k5⟩ := hchk.at2 h2
     have hi0 : i = 0 := by
      by_cases h9 : 0 < i
      · exact absurd (hI.feas h9).1 (k5.cert.isInf k5.ok.valid _)
      · omega
     have ha1 : a1 = [] := List.length_eq_zero_iff.1 (by omega); rw [ha1, ext_nil] at k5; refine vc_sr ?_; refine vr 2 ?_; refine vco_build Tryz.underlying40 el26 rfl rfl rfl rfl rfl rfl rfl ?_; intro gb hgb; have hle2 := Heap.le_ins (whole (cellsL [.slice B4d S.dual.length e4d]) 26) hgb; refine vco_st tbOk rfl el43 rfl rfl ?_; obtain ⟨ti, hti, htz⟩ := sz43; refine vco_bstore (.inl ⟨rfl, rfl⟩) rfl rfl rfl hti htz rfl rfl rfl ?_; refine vr 1 ?_; refine vco_k [4, 5] ?_; obtain ⟨ri0, rhi0, rhz0⟩ := sz43; refine vc_ret ⟨.inr rfl, _, .agg rfl Tryz.underlying43 rhi0 rhz0 (.tmp rfl (.nil)), ?_⟩; refine ⟨hG4.le.trans hle2, _, 0, rfl, hE, .inr ⟨rfl, ⟨2, [], [], [S.dual], []⟩, ⟨_, _, _, _, _, _, _, _, rfl, slV_nil, slV_nil, ?_, slV_nil⟩, .inr (.inl ⟨rfl, rfl, rfl, rfl, _, rfl, k5⟩)⟩⟩; exact ⟨_, 1, _, rfl, Nat.le_refl _, rd_ins _ _ _ _ _ _, els_one (P := VecP KX _) (vs := [.slice B4d S.dual.length e4d]) ⟨_, _, rfl, (hsd.le (ratUp KX) (rem_le _ _)).le (ratUp KX) hle2⟩ rfl⟩
    ·
     have h2 : ¬ S.status = 2 := by simpa using hb
     refine vc_sr ?_; refine vr 2 ?_; refine vco_k [1, 2, 4, 7, 10, 26, 27, 28, 54] ?_; refine vc_cond rfl (fun hb => ?_) (fun hb => ?_)
     ·
      have h3 : S.status = 3 := by simpa using hb
      obtain ⟨k1, k2, k3⟩ := hchk.at3 h3; have hlv := lvl_ok (st := 3) (ray := S.ray) (p := p) (os := os) (vs := a1) (ds := a2) (x := S.x) (by omega) (by omega) hI.lvc k3.feas.meets k3.feas.len; refine vc_sd (.drawT [7]) [0, 1, 2, 3, 4, 5, 6, 7, 8, 9] follows (by kernel_rfl) ?_; refine vr 5 ?_; obtain ⟨ti, hti, htz⟩ := sz3; refine vco_bstore (.inr rfl) rfl rfl rfl hti htz rfl rfl rfl ?_; refine vr 1 ?_; obtain ⟨ti, hti, htz⟩ := sz26; refine vco_bstore (.inr rfl) rfl rfl rfl hti htz rfl rfl rfl ?_; refine vr 1 ?_; obtain ⟨ti, hti, htz⟩ := sz26; refine vco_bstore (.inr rfl) rfl rfl rfl hti htz rfl rfl rfl ?_; refine vco_k [4, 7] ?_; refine vc_sr ?_; refine vr 1 ?_; obtain ⟨ti, hti, htz⟩ := sz43; refine vco_bstore (.inl ⟨rfl, rfl⟩) rfl rfl rfl hti htz rfl rfl rfl ?_; refine vr 1 ?_; refine vco_k [4, 5] ?_; obtain ⟨ri0, rhi0, rhz0⟩ := sz43; refine vc_ret ⟨.inr rfl, _, .agg rfl Tryz.underlying43 rhi0 rhz0 (.tmp rfl (.nil)), ?_⟩; exact ⟨hG4.le, _, 0, rfl, hE, .inr ⟨rfl, ⟨3, a1, S.x, a2, S.ray⟩, ⟨_, _, _, _, _, _, _, _, rfl, ((hG4.one (ratUp KX) (vecUp KX)).1.sl (ratUp KX)), hsx.le (ratUp KX) (rem_le _ _), ((hG4.one (ratUp KX) (vecUp KX)).2.le (vecUp KX) (rem_le _ _)), hsr.le (ratUp KX) (rem_le _ _)⟩, .inr (.inr ⟨rfl, by show a1.length < _; omega, hlv, o, hoi', k3⟩)⟩⟩
     ·
      have h3 : ¬ S.status = 3 := by simpa using hb
      have h1 : S.status = 1 := by rcases hchk with h9 | h9 | h9; exact h9.1; exact absurd h9.1 h2; exact absurd h9.1 h3
      obtain ⟨k1, k2, k3⟩ := hchk.at1 h1; have k3' : dotN p.free.length (fn o) (fn S.x) = S.value := k3.symm
      have hlvc : LvC (extP p os a1) o S.value S.dual := by have h9 := LvC.of k2; rwa [← k3] at h9
      have hfeas : (extP p os (a1 ++ [S.value])).lp.Meets 1 (fn S.x) := ext_snoc_meets (by omega) hoi' k2.feas.meets k3'; have hxl : S.x.length = p.free.length := k2.feas.len
      have hbin : ∃ D, BIn D (f0 + (i + 1) * E) (extP p os (a1 ++ [S.value])) := by
       obtain ⟨D', h9⟩ := hz.step (vs := a1) (by omega) hom hD0 hlast h1; exact ⟨D', by rw [show f0 + (i + 1) * E = E + (f0 + i * E) by rw [Nat.succ_mul i]; omega]; exact h9⟩
      have hG5 := hG4.rebase; refine vc_skip ?_; refine vc_keep [1, 2, 4, 7, 10, 26, 27, 28] rfl ?_; refine vc_sr ?_; refine vr 3 ?_; obtain ⟨ti, hti, htz⟩ := sz26; refine vco_bstore (.inr rfl) rfl rfl rfl hti htz rfl rfl rfl ?_; refine vco_k [1, 2, 4, 7, 10, 26, 27, 28] ?_; refine vc_sr ?_; refine vr 4 ?_; refine vco_build Tryz.underlying26 el31 rfl rfl rfl rfl rfl rfl rfl ?_; intro gb hgb; have hG5b := hG5.ins (ratUp KX) (vecUp KX) (whole (cellsL [.agg #[.bool f4, .slice B41 m41 e41, .slice B42 m42 e42]]) 31) hgb; refine vco_append Tryz.underlying26 el31 rfl rfl hG5b.own (rd_ins _ _ _ _ _ _) rfl (one_rat _ _ _ _ _ _ _) (by omega) (by omega) ?_; intro v6 H6 ha6; have hG6 := hG5b.append (ratUp KX) (vecUp KX) (j := [S.value]) (by simp) ha6 (els_one (P := RatP KX _) (vs := [.bool f4, .slice B41 m41 e41, .slice B42 m42 e42]) (RawV.le hval hG5b.base) rfl); obtain ⟨D6, d6, rfl⟩ := hG6.form; refine vr 1 ?_; obtain ⟨ti, hti, htz⟩ := sz26; refine vco_bstore (.inr rfl) rfl rfl rfl hti htz rfl rfl rfl ?_; refine vco_k [1, 2, 4, 7, 10, 26, 27, 28] ?_; refine vc_region rfl ?_; refine vr 4 ?_; refine vco_build Tryz.underlying40 el26 rfl rfl rfl rfl rfl rfl rfl ?_; intro gc hgc; have hG6b := hG6.ins (ratUp KX) (vecUp KX) (whole (cellsL [.slice B4d S.dual.length e4d]) 26) hgc; refine vco_append Tryz.underlying40 el26 rfl rfl hG6b.own' (rd_ins _ _ _ _ _ _) rfl (oneVec KX _ _ S.dual ⟨_, _, rfl, hsd⟩) (by omega) (by omega) ?_; intro v7 H7 ha7
      have hG7 := hG6b.append' (ratUp KX) (vecUp KX) (j := [S.dual]) (by simp) ha7 (els_one (P := VecP KX _) (vs := [.slice B4d S.dual.length e4d]) ⟨_, _, rfl, hsd.le (ratUp KX) hG6b.base⟩ rfl); obtain ⟨D7, d7, rfl⟩ := hG7.form'; refine vr 1 ?_; obtain ⟨ti, hti, htz⟩ := sz40; refine vco_bstore (.inr rfl) rfl rfl rfl hti htz rfl rfl rfl ?_; refine vco_end ?_; refine vc_keep [1, 2, 4, 7, 26, 27, 28] rfl ?_; refine vc_region rfl ?_; refine vco_add rfl rfl ⟨by omega, by omega⟩ ?_; refine vr 1 ?_; refine vco_end ?_; exact ⟨i + 1, (_, _, _), (_, _), (a1 ++ [S.value], a2 ++ [S.dual], S.x), by omega, sub_auto, ⟨hG7.down hG4.base, ⟨_, _, rfl, hsx.le (ratUp KX) hG7.base⟩, by simp [hvl], by simp [hdl], by omega, lvc_snoc (by omega) hoi' hI.lvc hlvc, fun _ => ⟨hfeas, hxl⟩, hbin⟩⟩
   ·
    have hb : os.length ≤ i := by simpa using hb
    obtain rfl : i = os.length := by omega
    obtain ⟨hfe, hxl⟩ := hI.feas (by omega)
    simp only at hfe hxl
    have hlv := lvl_ok (st := 1) (ray := []) (p := p) (os := os) (vs := a1) (ds := a2) (x := a3) (by omega) (by omega) hI.lvc hfe hxl; refine vc_exit ?_; refine vc_keep [4, 7] rfl ?_; refine vc_sr ?_; refine vr 1 ?_; obtain ⟨ti, hti, htz⟩ := sz3; refine vco_bstore (.inr rfl) rfl rfl rfl hti htz rfl rfl rfl ?_; refine vco_k [4, 7] ?_; refine vc_sr ?_; refine vr 1 ?_; obtain ⟨ti, hti, htz⟩ := sz43; refine vco_bstore (.inl ⟨rfl, rfl⟩) rfl rfl rfl hti htz rfl rfl rfl ?_; refine vr 1 ?_; refine vco_k [4, 5] ?_; obtain ⟨ri0, rhi0, rhz0⟩ := sz43; refine vc_ret ⟨.inr rfl, _, .agg rfl Tryz.underlying43 rhi0 rhz0 (.tmp rfl (.nil)), ?_⟩; exact ⟨hG.le, _, 0, rfl, hE, .inr ⟨rfl, ⟨1, a1, a3, a2, []⟩, ⟨_, _, _, _, _, _, _, _, rfl, ((hG.one (ratUp KX) (vecUp KX)).1.sl (ratUp KX)), hX.le (ratUp KX) (rem_le _ _), ((hG.one (ratUp KX) (vecUp KX)).2.le (vecUp KX) (rem_le _ _)), slV_nil⟩, .inl ⟨rfl, hvl, rfl, ⟨hok, hxl, ((ext_meets (by omega)).1 hfe).1⟩, hlv⟩⟩⟩
end Go.Eng
