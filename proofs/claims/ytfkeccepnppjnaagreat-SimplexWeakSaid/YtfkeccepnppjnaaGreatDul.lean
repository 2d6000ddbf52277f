/- SimplexDuality, SimplexWeak: the laws' walks. -/
import Derived.Test.YtfkeccepnppjnaaGreatA11
import Derived.Test.YtfkeccepnppjnaaGreatDu
import Derived.Test.YtfkeccepnppjnaaGreatSmp9
set_option linter.unusedVariables false
namespace Go.Eng
open Go.Proofs Num Lp
def DualY (p : Prg) (c : List Rat) (H : Heap) (v : Value) (H' : Heap) : Prop := Heap.le H H' ∧ ∃ (A1 : Option Addr) (k1 c1 : Nat) (A2 : Option Addr) (k2 c2 : Nat) (A3 : Option Addr) (k3 c3 : Nat), v = .tuple #[.agg #[.slice A1 k1 c1, .slice A2 k2 c2], .slice A3 k3 c3, .int .i64 0] ∧ ProgV 4 H' (.agg #[.slice A1 k1 c1, .slice A2 k2 c2]) (duP p c) ∧ SlV (RatP 4) 3 H' (.slice A3 k3 c3) (duO p)
theorem sDual_yes {H : Heap} {v cv : Value} {p : Prg} {c : List Rat} (h : Slv H v cv p c) : Fn Tryz.prog 40 #[v, cv] H (DualY p c H) :=
  (sDual_ok h.sml.prog h.vec (by decide)).mono fun v' H' ⟨hl, A1, k1, c1, A2, k2, c2, A3, k3, c3, e, h1, h2⟩ => by
    have hm := h.sml.rows
    rcases h2 with h2 | h2 | h2 | ⟨_, _, _, rfl, h3, h4⟩
    · exact absurd h.ok h2.1
    · exact absurd h.len h2.2.1
    · have := h2.2.2.1; omega
    · exact ⟨hl, A1, k1, c1, A2, k2, c2, A3, k3, c3, h1, h3, h4⟩
theorem Slv.dufew {H H' : Heap} {v cv dv ov : Value} {p : Prg} {c : List Rat} (h : Slv H v cv p c) (hp : ProgV 4 H' dv (duP p c)) (ho : SlV (RatP 4) 3 H' ov (duO p)) : Few 4 H' dv ov (duP p c) (duO p) := by
  have hm := h.sml.rows
  have hn := h.sml.cols
  exact ⟨hp, ho, by decide, by rw [duO_len]; omega, by rw [duR_len]; omega, fun r hr => by rw [duRow_len hr]; omega⟩
theorem Chk.opt {p : Prg} {c : List Rat} {S : Soln} (h : Chk p c S) (hs : S.status = 1) : ChkOpt p c S.x S.dual ∧ S.value = dotN p.free.length (fn c) (fn S.x) := by
  rcases h with h | h | h
  · exact ⟨h.2.2.1, h.2.2.2⟩
  · exact absurd h.1 (by omega)
  · exact absurd h.1 (by omega)
/-- What the results of a program and of its dual have to do with each other. -/
theorem CanV.form {H : Heap} {v : Value} {q : Rat} (h : CanV H v q) : ∃ f A1 m1 c1 A2 m2 c2, v = .agg #[.bool f, .slice A1 m1 c1, .slice A2 m2 c2] := by
  obtain ⟨t, rfl⟩ := h.rc
  exact ⟨_, _, _, _, _, _, _, rfl⟩
theorem du_sem {p : Prg} {c : List Rat} {S T : Soln} (hok : p.Ok) (h : Chk p c S) (k : Chk (duP p c) (duO p) T) : (S.status = 1 ∧ T.status = 1 ∧ S.value + T.value = 0) ∨ (S.status = 2 ∧ (T.status = 2 ∨ T.status = 3)) ∨ (S.status = 3 ∧ T.status = 2) := by
  rcases h with ⟨h1, _, h2, h3⟩ | ⟨h1, _, _, _, _, h2⟩ | ⟨h1, _, _, h2⟩
  · have ho := du_opt hok h2.cert
    rcases k.sem with ⟨k1, k2⟩ | ⟨k1, k2, _⟩ | ⟨k1, k2, _⟩
    · have := LP.opt_opt ho k2
      refine .inl ⟨h1, k1, ?_⟩
      rw [← this, h3]
      show _ + -dotN p.free.length (fn c) (fn S.x) = 0
      grind
    · exact (LP.opt_inf ho k2).elim
    · exact (LP.opt_unb ho k2).elim
  · rcases k.sem with ⟨k1, k2⟩ | ⟨k1, k2, _⟩ | ⟨k1, k2, _⟩
    · exact absurd k2 (du_inf hok h2.cert)
    · exact .inr (.inl ⟨h1, .inl k1⟩)
    · exact .inr (.inl ⟨h1, .inr k1⟩)
  · have hi := du_unb hok h2.cert.isUnb
    rcases k.sem with ⟨k1, k2⟩ | ⟨k1, k2, _⟩ | ⟨k1, k2, _⟩
    · exact (LP.opt_inf k2 hi).elim
    · exact .inr (.inr ⟨h1, k1⟩)
    · exact (LP.unb_inf k2 hi).elim
theorem ValP.rc9 {c x : List Rat} {H H' : Heap} {v : Value} (h : ValP c x H v H') (hl : c.length = x.length) : Heap.le H H' ∧ ∃ t : RC, v = .tuple #[t.v, .int .i64 0] ∧ CanV H' t.v (dotN c.length (fn c) (fn x)) := by
  obtain ⟨hl', s, e, rfl, h⟩ := h
  refine ⟨hl', ?_⟩
  rcases h with ⟨h1, _⟩ | ⟨h1, rfl, h2⟩
  · exact absurd hl h1
  · obtain ⟨t, rfl⟩ := h2.rc
    exact ⟨t, rfl, h2⟩
theorem duality_ok {H : Heap} {v cv : Value} {p : Prg} {c : List Rat} {N : Nat} (hp : ProgV N H v p) (hc : SlV (RatP N) 3 H cv c) :
  Fn Tryz.prog 13 #[v, cv] H (fun v H' => Heap.le H H' ∧ v = .bool true) := by
 obtain ⟨fv, rv0, rfl, hfv, hrv0⟩ := id hp
 obtain ⟨Af, cf, xf, rfl, hrF, hxF⟩ := hfv.one
 obtain ⟨Ar, cr, xr, rfl, hrR, hxR⟩ := hrv0.row
 obtain ⟨Ac, cc, xc, rfl, hcc, hrc, hec⟩ := id hc
 refine fn_intro (args := [_, _]) Tryz.func13 rfl rfl Tryz.ntmps13 rfl rfl fun w0 => ?_
 refine vc_keep [0, 1] rfl ?_
 refine vc_sr ?_
 refine vco_box rfl rfl ?_
 refine vco_run tbOk 1 rfl ?_
 refine vco_k [1, 2] ?_
 refine vc_seq ?_
 refine vc_sr ?_
 refine vco_call rfl rfl (sane_ok) ?_
 rintro _ H1 ⟨hl1, rfl⟩
 refine vco_run tbOk 1 rfl ?_
 refine vco_k [1, 2, 13] ?_
 refine vc_cond_f rfl ?_
 refine vc_skip ?_
 refine vc_keep [1, 2] rfl ?_
 refine vc_seq ?_
 refine vc_sr ?_
 refine vco_run tbOk 2 rfl ?_
 refine vco_call rfl rfl (solvable_ok (hp.le hl1) (hc.le (ratUp N) hl1)) ?_
 rintro _ H2 ⟨hl2, b2, rfl, hb2⟩
 have h02 := hl1.trans hl2
 refine vco_run tbOk 1 rfl ?_
 refine vco_k [1, 2, 17] ?_
 refine vc_cond rfl (fun hb => ?_) (fun hb => ?_)
 ·
  skip
  refine vc_sr ?_
  refine vco_run tbOk 1 rfl ?_
  refine vco_k [4] ?_
  refine vc_ret ⟨.inr rfl, _, .tmp rfl (.nil), ?_⟩
  exact ⟨h02, rfl⟩
 ·
  have hs := hb2 (by simpa using hb)
  have hm6 := hs.sml.rows
  refine vc_skip ?_
  refine vc_keep [1, 2] rfl ?_
  refine vc_sr ?_
  refine vco_run tbOk 2 rfl ?_
  refine vco_call rfl rfl (minS_ok hs.few hs.ok hs.len) ?_
  rintro _ H3 ⟨hl3, S, f3, B31, m31, e31, B32, m32, e32, B3x, k3x, e3x, B3d, k3d, e3d, B3r, k3r, e3r, rfl, hchk3, hval3, hsx3, hsd3, hsr3⟩
  refine vco_run tbOk 3 rfl ?_
  refine vco_alloc el36 rfl ?_
  obtain ⟨ti, hti, htz⟩ := sz36; refine vco_bstore (.inl ⟨rfl, rfl⟩) rfl rfl rfl hti htz rfl rfl rfl ?_
  refine vco_run tbOk 1 rfl ?_
  refine vco_k [1, 2, 5, 6] ?_
  refine vc_sr ?_
  refine vco_run tbOk 2 rfl ?_
  refine vco_call rfl rfl (sDual_yes (hs.le hl3)) ?_
  rintro _ H4 ⟨hl4, D1, a1, d1, D2, a2, d2, D3, a3, d3, rfl, hdp, hdo⟩
  refine vco_run tbOk 4 rfl ?_
  refine vco_alloc el25 rfl ?_
  obtain ⟨ti, hti, htz⟩ := sz25; refine vco_bstore (.inl ⟨rfl, rfl⟩) rfl rfl rfl hti htz rfl rfl rfl ?_
  refine vco_run tbOk 2 rfl ?_
  refine vco_k [5, 6, 7, 8, 9] ?_
  refine vc_sr ?_
  refine vco_run tbOk 2 rfl ?_
  refine vco_call rfl rfl (minS_ok (hs.dufew hdp hdo) (du_ok hs.ok (by omega)) (by rw [duO_len, duF_len])) ?_
  rintro _ H5 ⟨hl5, T, f5, B51, m51, e51, B52, m52, e52, B5x, k5x, e5x, B5d, k5d, e5d, B5r, k5r, e5r, rfl, hchk5, hval5, hsx5, hsd5, hsr5⟩
  refine vco_run tbOk 3 rfl ?_
  refine vco_alloc el36 rfl ?_
  obtain ⟨ti, hti, htz⟩ := sz36; refine vco_bstore (.inl ⟨rfl, rfl⟩) rfl rfl rfl hti htz rfl rfl rfl ?_
  refine vco_run tbOk 1 rfl ?_
  refine vco_k [5, 6, 9, 10, 11] ?_
  refine vc_seq ?_
  refine vc_sr ?_
  refine vco_run tbOk 10 rfl ?_
  refine vco_k [5, 10, 46] ?_
  refine vc_cond_f rfl ?_
  refine vc_skip ?_
  refine vc_keep [5, 10] rfl ?_
  refine vc_seq ?_
  have hds := du_sem hs.ok hchk3 hchk5
  have h05 := h02.trans (hl3.trans (hl4.trans hl5))
  have h35 := hl4.trans hl5
  refine vc_sr ?_
  refine vco_run tbOk 2 rfl ?_
  refine vco_k [5, 10, 48] ?_
  refine vc_block ?_
  refine vc_sr ?_
  refine vco_run tbOk 2 rfl ?_
  refine vco_k [5, 10, 48, 49] ?_
  refine vc_cond rfl (fun hb => ?_) (fun hb => ?_)
  ·
   have h1 : S.status = 1 := by simpa using hb
   obtain ⟨h2, h3⟩ : T.status = 1 ∧ S.value + T.value = 0 := by
    rcases hds with h | h | h
    · exact h.2
    · exact absurd h.1 (by omega)
    · exact absurd h.1 (by omega)
   refine vc_sr ?_
   refine vco_run tbOk 2 rfl ?_
   refine vco_cmp true rfl rfl (ceq_t h2) ?_
   refine vco_run tbOk 5 rfl ?_
   refine vco_call rfl rfl (rAdd_ok (N := MX) (hval3.le h35) hval5 (by decide)) ?_
   rintro _ H6 ⟨hl6, hq6⟩
   obtain ⟨f6, A61, m61, c61, A62, m62, c62, rfl⟩ := hq6.form
   have hz1 := szQ_add S.value T.value
   have hz2 := hval3.size
   have hz3 := hval5.size
   refine vco_call rfl rfl ((rSign_ok (N := 3 * MX) ((CanV.raw hq6).mono (by show _ ≤ 3 * 100000000; rw [show MX = 100000000 from rfl] at hz2 hz3; omega)) (by decide)).mono fun v H' h => (⟨h.1, by rw [h.2, h3]; rfl⟩ : Heap.le H6 H' ∧ v = .int .i64 0)) ?_
   rintro _ H7 ⟨hl7, rfl⟩
   refine vco_run tbOk 3 rfl ?_
   refine vco_k [4] ?_
   refine vc_ret ⟨.inr rfl, _, .tmp rfl (.nil), ?_⟩
   exact ⟨h05.trans (hl6.trans hl7), rfl⟩
  ·
   have h1 : ¬ S.status = 1 := by simpa using hb
   refine vc_sr ?_
   refine vco_run tbOk 2 rfl ?_
   refine vco_k [5, 10, 63] ?_
   refine vc_cond rfl (fun hb => ?_) (fun hb => ?_)
   ·
    have h2 : S.status = 2 := by simpa using hb
    have h3 : T.status = 2 ∨ T.status = 3 := by
     rcases hds with h | h | h
     · exact absurd h.1 h1
     · exact h.2
     · exact absurd h.1 (by omega)
    rcases h3 with h3 | h3
    ·
     skip
     refine vc_sr ?_
     refine vco_run tbOk 2 rfl ?_
     refine vco_cmp true rfl rfl (ceq_t h3) ?_
     refine vco_run tbOk 6 rfl ?_
     refine vco_k [4] ?_
     refine vc_ret ⟨.inr rfl, _, .tmp rfl (.nil), ?_⟩
     exact ⟨h05, rfl⟩
    ·
     skip
     refine vc_sr ?_
     refine vco_run tbOk 2 rfl ?_
     refine vco_cmp false rfl rfl (ceq_f (by omega)) ?_
     refine vco_run tbOk 3 rfl ?_
     refine vco_cmp true rfl rfl (ceq_t h3) ?_
     refine vco_run tbOk 2 rfl ?_
     refine vco_k [4] ?_
     refine vc_ret ⟨.inr rfl, _, .tmp rfl (.nil), ?_⟩
     exact ⟨h05, rfl⟩
   ·
    have h2 : ¬ S.status = 2 := by simpa using hb
    obtain ⟨h3, h4⟩ : S.status = 3 ∧ T.status = 2 := by
     rcases hds with h | h | h
     · exact absurd h.1 h1
     · exact absurd h.1 h2
     · exact h
    refine vc_skip ?_
    refine vc_keep [5, 10] rfl ?_
    refine vc_sr ?_
    refine vco_run tbOk 2 rfl ?_
    refine vco_cmp true rfl rfl (ceq_t h3) ?_
    refine vco_run tbOk 3 rfl ?_
    refine vco_cmp true rfl rfl (ceq_t h4) ?_
    refine vco_run tbOk 2 rfl ?_
    refine vco_k [4] ?_
    refine vc_ret ⟨.inr rfl, _, .tmp rfl (.nil), ?_⟩
    exact ⟨h05, rfl⟩
end Go.Eng
