/- LexicoFirst: the law's walk. -/
import Derived.Test.YtbdlohajhbnadaaGreatA10
import Derived.Test.YtbdlohajhbnadaaGreatLw2
set_option linter.unusedVariables false
namespace Go.Eng
open Go.Proofs Num Lp
/-- What Minimize of lexico gives for arguments without an error. -/
def LexQ (p : Prg) (os : List (List Rat)) (H : Heap) (v : Value) (H' : Heap) : Prop := Heap.le H H' ∧ ∃ (S : LexS) (A1 : Option Addr) (c1 : Nat) (A2 : Option Addr) (c2 : Nat) (A3 : Option Addr) (c3 : Nat) (A4 : Option Addr) (c4 : Nat), v = .tuple #[.agg #[.int .i64 S.status, .slice A1 S.values.length c1, .slice A2 S.x.length c2, .slice A3 S.duals.length c3, .slice A4 S.ray.length c4], .int .i64 0] ∧ ChkLex p os S ∧ SlV (RatP KX) 3 H' (.slice A1 S.values.length c1) S.values ∧ SlV (RatP KX) 3 H' (.slice A2 S.x.length c2) S.x ∧ LsV KX H' (.slice A3 S.duals.length c3) S.duals ∧ SlV (RatP KX) 3 H' (.slice A4 S.ray.length c4) S.ray
theorem lexQ_ok {N E f0 : Nat} {H : Heap} {v ov : Value} {p : Prg} {os : List (List Rat)} (hp : ProgV N H v p) (ho : LsV N H ov os) (hN : N ≤ KX) (hf : LexFine p os) (hz : LexSz p os E f0) : Fn Tryz.prog 15 #[v, ov] H (LexQ p os H) := by
  have hl := hf.lev
  refine (lexMin_ok hp ho hN (by omega) (fun _ => hz)).mono ?_
  rintro v' H' ⟨hl4, s, e, rfl, hE, hcs⟩
  have he := lexE_unique hE (.inr (.inr (.inr ⟨hf, rfl⟩)))
  subst he
  rcases hcs with ⟨h9, _⟩ | ⟨_, S, ⟨A1, c1, A2, c2, A3, c3, A4, c4, rfl, h⟩, hchk⟩
  · exact absurd rfl h9
  · exact ⟨hl4, S, A1, c1, A2, c2, A3, c3, A4, c4, rfl, hchk, h⟩
theorem lex_first {p : Prg} {os : List (List Rat)} {st t : Int} {vs o : List Rat} {v : Rat} (h : LexR p os st vs) (ho : os[0]? = some o) (k : (t = 1 ∧ p.lp.IsOpt (fn o) v) ∨ (t = 2 ∧ p.lp.IsInf ∧ v = 0) ∨ (t = 3 ∧ p.lp.IsUnb (fn o) ∧ v = 0)) : (t ≠ 1 → st = t ∧ vs = []) ∧ (t = 1 → st ≠ 2 ∧ vs[0]? = some v) := by
  have lev0 : ∀ {ws : List Rat}, Lev p os ws → ∀ {w : Rat}, ws[0]? = some w → p.lp.IsOpt (fn o) w := fun hw w h0 => by
    have := hw.2 0 o w ho h0
    rwa [List.take_zero, ext_nil] at this
  have hos := (List.getElem?_eq_some_iff.1 ho).1
  have get0 : ∀ {ws : List Rat}, 0 < ws.length → ∃ w, ws[0]? = some w := fun h => ⟨_, List.getElem?_eq_getElem h⟩
  rcases h with ⟨h1, h2, h3, x, hx⟩ | ⟨h1, h2, h3⟩ | ⟨h1, h3, o', h4, h5⟩
  · obtain ⟨w, hw⟩ := get0 (ws := vs) (by omega)
    have hopt := lev0 h3 hw
    rcases k with ⟨k1, k2⟩ | ⟨k1, k2, _⟩ | ⟨k1, k2, _⟩
    · exact ⟨fun h => absurd k1 h, fun _ => ⟨by omega, by rw [hw, LP.opt_opt hopt k2]⟩⟩
    · exact (k2 x hx).elim
    · exact (LP.opt_unb hopt k2).elim
  · rcases k with ⟨k1, ⟨x, hx, _⟩, _⟩ | ⟨k1, _⟩ | ⟨k1, ⟨⟨x, hx⟩, _⟩, _⟩
    · exact (h3 x hx).elim
    · exact ⟨fun _ => ⟨by omega, h2⟩, fun h => by omega⟩
    · exact (h3 x hx).elim
  · by_cases hl : vs = []
    · subst hl
      have h4 : os[0]? = some o' := h4
      rw [ho] at h4
      cases h4
      rw [ext_nil] at h5
      rcases k with ⟨k1, k2⟩ | ⟨k1, k2, _⟩ | ⟨k1, k2, _⟩
      · exact (LP.opt_unb k2 h5).elim
      · exact (LP.unb_inf h5 k2).elim
      · exact ⟨fun _ => ⟨by omega, rfl⟩, fun h => by omega⟩
    · obtain ⟨w, hw⟩ := get0 (ws := vs) (List.length_pos_iff.2 hl)
      have hopt := lev0 h3 hw
      rcases k with ⟨k1, k2⟩ | ⟨k1, k2, _⟩ | ⟨k1, k2, _⟩
      · exact ⟨fun h => absurd k1 h, fun _ => ⟨by omega, by rw [hw, LP.opt_opt hopt k2]⟩⟩
      · obtain ⟨x, hx, _⟩ := hopt.1
        exact (k2 x hx).elim
      · exact (LP.opt_unb hopt k2).elim
theorem first_ok {H : Heap} {v ov : Value} {p : Prg} {os : List (List Rat)} {N : Nat} (hp : ProgV N H v p) (ho : LsV N H ov os) (hol : os.length ≤ 9223372036854775807) :
  Fn Tryz.prog 5 #[v, ov] H (fun v H' => Heap.le H H' ∧ v = .bool true) := by
 obtain ⟨fv, rv0, rfl, hfv, hrv0⟩ := id hp
 obtain ⟨Af, cf, xf, rfl, hrF, hxF⟩ := hfv.one
 obtain ⟨Ar, cr, xr, rfl, hcr, hrR, hxR⟩ := id hrv0
 obtain ⟨Ao, co, xo, rfl, hco, hro, hxo⟩ := id ho; refine fn_intro (args := [_, _]) Tryz.func5 rfl rfl Tryz.ntmps5 rfl rfl fun w0 => ?_; refine vc_keep [0, 1] rfl ?_; refine vc_sr ?_; refine vco_box rfl rfl ?_; refine vr 1 ?_; refine vco_k [1, 2] ?_; refine vc_seq ?_; refine vc_sr ?_; refine vco_call rfl rfl (sane3_ok) ?_; rintro _ H1 ⟨hl1, rfl⟩; refine vr 1 ?_; refine vco_k [1, 2, 10] ?_; refine vc_cond_f rfl ?_; refine vc_skip ?_; refine vc_keep [1, 2] rfl ?_; refine vc_seq ?_; refine vc_sr ?_; refine vr 2 ?_; refine vco_call rfl rfl (solvable3_ok (hp.le hl1) (ho.le (vecUp N) hl1) hol) ?_; rintro _ H2 ⟨e2, b2, rfl, hb2⟩; rw [e2]
 cases b2
 ·
  skip
  refine vr 6 ?_; refine vco_k [1, 2, 19] ?_; refine vc_cond_t rfl ?_; refine vc_sr ?_; refine vr 1 ?_; refine vco_k [4] ?_; refine vc_ret ⟨.inr rfl, _, .tmp rfl (.nil), ?_⟩; exact ⟨hl1, rfl⟩
 ·
  skip
  refine vr 6 ?_; refine vco_k [1, 2, 19] ?_; refine vc_cond rfl (fun hb => ?_) (fun hb => ?_)
  ·
   skip
   refine vc_sr ?_; refine vr 1 ?_; refine vco_k [4] ?_; refine vc_ret ⟨.inr rfl, _, .tmp rfl (.nil), ?_⟩; exact ⟨hl1, rfl⟩
  ·
   obtain ⟨hk, hf⟩ := hb2 rfl
   have hos : ¬ (os.length : Int) = 0 := by simpa using hb
   have hz := hk.sz hf; have htot := hz.tot; obtain ⟨o, hoi⟩ : ∃ o, os[0]? = some o := ⟨_, List.getElem?_eq_getElem (by omega)⟩; have hom := List.mem_of_getElem? hoi; obtain ⟨Ao9, co9, xo9, e9, hco9, hro9, hxo9⟩ := id hk.obj
   cases e9
   obtain ⟨Bo, cb, hbx, hsl⟩ := vec_get hxo9 hoi; obtain ⟨D0, hD0⟩ := hz.bin; obtain ⟨M, hfit, hM⟩ := hz.fit (vs := []) (o := o) (Nat.zero_le _) (.inl hom) (by rw [ext_nil]; exact hD0); rw [ext_nil] at hfit
   have hMb : M ≤ 99999998 := by
    have h9 : 1 * 19934208 ≤ (os.length + 1) * 19934208 := Nat.mul_le_mul_right _ (by omega)
    omega
   refine vc_skip ?_; refine vc_keep [1, 2] rfl ?_; refine vc_sr ?_; refine vr 2 ?_; refine vco_call rfl rfl (lexQ_ok (N := 2) hk.sml.prog hk.obj (by decide) hf hz) ?_; rintro _ H3 ⟨hl3, S, A31, c31, A32, c32, A33, c33, A34, c34, rfl, hchk3, hv31, hv32, hv33, hv34⟩; refine vr 3 ?_; refine vco_alloc el31 rfl ?_; obtain ⟨ti, hti, htz⟩ := sz31; refine vco_bstore (.inl ⟨rfl, rfl⟩) rfl rfl rfl hti htz rfl rfl rfl ?_; refine vr 1 ?_; refine vco_k [1, 2, 5, 6] ?_; refine vc_sd .drawB [0, 1, 2, 3, 4, 5, 6, 7, 8, 9, 10] follows (by kernel_rfl) ?_; refine vr 2 ?_; refine vco_at tbOk rfl rfl rfl rfl rfl (hro9.le hl3) (hbx) (by omega) (by omega) fun _ => ?_; refine vco_callM rfl rfl (minK_ok (N := 2) (hk.sml.prog.le hl3) (hsl.le (ratUp 2) hl3) (by decide) hf.ok (hf.vec o hom) hfit hMb) (fun _ _ h => by first | exact h.le | exact h.1) ?_; rintro _ H4 ⟨hl4, T, f4, B41, m41, e41, B42, m42, e42, B4x, e4x, B4d, e4d, B4r, e4r, rfl, hchk4, hlast4, hval4, hsx4, hsd4, hsr4⟩; refine vr 3 ?_; refine vco_alloc el44 rfl ?_; obtain ⟨ti, hti, htz⟩ := sz44; refine vco_bstore (.inl ⟨rfl, rfl⟩) rfl rfl rfl hti htz rfl rfl rfl ?_; refine vr 1 ?_; refine vco_k [5, 6, 7, 8] ?_; refine vc_seq ?_; refine vc_sr ?_; refine vr 6 ?_; refine vco_k [5, 7, 39] ?_; refine vc_cond_f rfl ?_; refine vc_skip ?_; refine vc_keep [5, 7] rfl ?_; refine vc_seq ?_; obtain ⟨hA, hB⟩ := lex_first hchk3.sem hoi hchk4.sem; have h04 := hl1.trans (hl3.trans hl4)
   refine vc_sr ?_; refine vr 3 ?_; refine vco_k [5, 7, 42] ?_; refine vc_cond rfl (fun hb => ?_) (fun hb => ?_)
   ·
    have ht : ¬ T.status = 1 := by simpa using hb
    obtain ⟨hst, hvs⟩ := hA ht
    have hvl : S.values.length = 0 := by rw [hvs]; rfl
    refine vc_sr ?_; refine vr 4 ?_; refine vco_cmp true rfl rfl (ceq_t hst) ?_; refine vr 4 ?_; refine vco_cmp true rfl rfl (ceq_t (by omega)) ?_; refine vr 2 ?_; refine vco_k [4] ?_; refine vc_ret ⟨.inr rfl, _, .tmp rfl (.nil), ?_⟩; exact ⟨h04, rfl⟩
   ·
    have ht : T.status = 1 := by simpa using hb
    obtain ⟨hst, hvs⟩ := hB ht; have hvl := (List.getElem?_eq_some_iff.1 hvs).1; obtain ⟨A9, c9, x9, e9, hc9, hr9, he9⟩ := id hv31
    simp only [Value.slice.injEq, true_and] at e9
    obtain ⟨rfl, rfl⟩ := e9; obtain ⟨g6, G1, n1, o1, G2, n2, o2, hsg6, hraw6, hqx6⟩ := SlV.seg3 he9 hvs; refine vc_skip ?_; refine vc_keep [5, 7] rfl ?_; refine vc_sd .drawB [0, 1, 2, 3, 4, 5, 6, 7, 8, 9, 10, 11, 12, 13, 14, 15, 16, 17, 18, 19] follows (by kernel_rfl) ?_; refine vr 2 ?_; refine vco_cmp true rfl rfl (cne_t hst) ?_; refine vr 4 ?_; refine vco_cmp true rfl rfl (cgt_t (by omega)) ?_; refine vr 4 ?_; refine vco_at_st (vs := [.bool g6, .slice G1 n1 o1, .slice G2 n2 o2]) tbOk rfl rfl rfl rfl (hr9.le hl4) rfl (by decide) hqx6 (by omega) (by omega) fun _ => ?_; refine vr 2 ?_; refine vco_callM rfl rfl ((rCmp_ok (N := KX) (hraw6.le hl4) hval4 (by decide)).mono fun v H' h => (⟨h.1, by rw [h.2, cmpQ_self]⟩ : Heap.le H4 H' ∧ v = .int .i64 0)) (fun _ _ h => by first | exact h.le | exact h.1) ?_; rintro _ H5 ⟨hl5, rfl⟩; refine vr 3 ?_; refine vco_k [4] ?_; refine vc_ret ⟨.inr rfl, _, .tmp rfl (.nil), ?_⟩; exact ⟨h04.trans hl5, rfl⟩
end Go.Eng
