/- SimplexMinimizes, SimplexAccepts, SimplexBasics: the laws' walks. -/
import Derived.Test.YtfkeccepnppjnaaGreatA11
import Derived.Test.YtfkeccepnppjnaaGreatChk3
import Derived.Test.YtfkeccepnppjnaaGreatSmp9
set_option linter.unusedVariables false
namespace Go.Eng
open Go.Proofs Num Lp
theorem rValid_yes {H : Heap} {v : Value} {p : Prg} {N : Nat} (hp : ProgV N H v p) (hok : p.Ok) : Fn Tryz.prog 24 #[v] H (RetE H (.bool true)) :=
  (rValid_ok hp).mono fun v H' ⟨h1, b, h2, h3⟩ => ⟨h1, by rw [h2, h3.2 hok]⟩
theorem rValid_no {H : Heap} {v : Value} {p : Prg} {N : Nat} (hp : ProgV N H v p) (hok : ¬ p.Ok) : Fn Tryz.prog 24 #[v] H (RetE H (.bool false)) :=
  (rValid_ok hp).mono fun v H' ⟨h1, b, h2, h3⟩ => ⟨h1, by
    cases b with
    | false => exact h2
    | true => exact absurd (h3.1 rfl) hok⟩
theorem MinR.cases {p : Prg} {c : List Rat} {H H' : Heap} {v : Value} (h : MinR p c H v H') : Heap.le H H' ∧ ((¬ p.Ok ∧ v = .tuple #[sol0, .int .i64 1]) ∨ (p.Ok ∧ c.length ≠ p.free.length ∧ v = .tuple #[sol0, .int .i64 21]) ∨ (p.Ok ∧ c.length = p.free.length ∧ ∃ (S : Soln) (t : RC) (Ax : Option Addr) (kx cx : Nat) (Ad : Option Addr) (kd cd : Nat) (Ar : Option Addr) (kr cr : Nat), v = .tuple #[.agg #[.int .i64 S.status, .bool t.f, .slice t.A1 t.m1 t.c1, .slice t.A2 t.m2 t.c2, .slice Ax kx cx, .slice Ad kd cd, .slice Ar kr cr], .int .i64 0] ∧ Chk p c S ∧ RawV H' t.v S.value MX ∧ SlV (RatP MX) 3 H' (.slice Ax kx cx) S.x ∧ SlV (RatP MX) 3 H' (.slice Ad kd cd) S.dual ∧ SlV (RatP MX) 3 H' (.slice Ar kr cr) S.ray)) := by
  obtain ⟨hl, s, e, rfl, h⟩ := h
  refine ⟨hl, ?_⟩
  rcases h with ⟨h1, rfl, rfl⟩ | ⟨h1, h2, rfl, rfl⟩ | ⟨h1, h2, rfl, S, ⟨f, A1, m1, c1, A2, m2, c2, Ax, kx, cx, Ad, kd, cd, Ar, kr, cr, rfl, h3⟩, h4⟩
  · exact .inl ⟨h1, rfl⟩
  · exact .inr (.inl ⟨h1, h2, rfl⟩)
  · exact .inr (.inr ⟨h1, h2, S, ⟨f, A1, m1, c1, A2, m2, c2⟩, Ax, kx, cx, Ad, kd, cd, Ar, kr, cr, rfl, h4, h3⟩)
theorem minimizes_ok {H : Heap} {v cv : Value} {p : Prg} {c : List Rat} {N : Nat} (hp : ProgV N H v p) (hc : SlV (RatP N) 3 H cv c) :
  Fn Tryz.prog 4 #[v, cv] H (fun v H' => Heap.le H H' ∧ v = .bool true) := by
 obtain ⟨fv, rv0, rfl, hfv, hrv0⟩ := id hp
 obtain ⟨Af, cf, xf, rfl, hrF, hxF⟩ := hfv.one
 obtain ⟨Ar, cr, xr, rfl, hcr, hrR, hxR⟩ := hrv0
 obtain ⟨AC, cC, xC, rfl, hcC, hrC, hxC⟩ := id hc
 refine fn_intro (args := [_, _]) Tryz.func4 rfl rfl Tryz.ntmps4 rfl rfl fun w0 => ?_
 refine vc_keep [0, 1] rfl ?_
 refine vc_sr ?_
 refine vco_box rfl rfl ?_
 refine vco_run tbOk 1 rfl ?_
 refine vco_k [1, 2] ?_
 refine vc_seq ?_
 refine vc_sr ?_
 refine vco_call rfl rfl (sane_ok) ?_
 rintro _ H1 ⟨hl1, rfl⟩
 refine vco_run tbOk 1 rfl ?_
 refine vco_k [1, 2, 8] ?_
 refine vc_cond_f rfl ?_
 refine vc_skip ?_
 refine vc_keep [1, 2] rfl ?_
 refine vc_seq ?_
 refine vc_sr ?_
 refine vco_run tbOk 2 rfl ?_
 refine vco_build Tryz.underlying66 el26 rfl rfl rfl rfl rfl rfl rfl ?_
 intro gb hgb
 have hle := Heap.le_ins (whole (cellsL [.slice AC c.length cC]) 26) hgb
 refine vco_call rfl rfl (kept_ok (N := N) (vs := [.slice AC c.length cC]) (ls := [c]) (hp.le (hl1.trans hle)) (rd_ins _ _ _ _ _ _) rfl (.cons (hc.le (ratUp N) (hl1.trans hle)) (lsts_nil _ _))) ?_
 rintro _ H2 ⟨e2, b2, rfl, hb2⟩
 rw [e2]
 have h02 := hl1.trans hle
 refine vco_run tbOk 1 rfl ?_
 refine vco_k [1, 2, 13] ?_
 refine vc_cond rfl (fun hb => ?_) (fun hb => ?_)
 ·
  skip
  refine vc_sr ?_
  refine vco_run tbOk 1 rfl ?_
  refine vco_k [4] ?_
  refine vc_ret ⟨.inr rfl, _, .tmp rfl (.nil), ?_⟩
  exact ⟨h02, rfl⟩
 ·
  obtain ⟨hsm, hls, hlen⟩ := hb2 (by simpa using hb)
  have hvec := hls.head
  have hc6 := hlen c (List.mem_cons_self ..)
  have hm6 := hsm.rows
  refine vc_skip ?_
  refine vc_keep [1, 2] rfl ?_
  refine vc_sr ?_
  refine vco_run tbOk 2 rfl ?_
  refine vco_call rfl rfl (minR_ok ⟨hsm.prog, hvec, by decide, by omega, by omega, fun r hr => by obtain ⟨i, hi⟩ := List.getElem?_of_mem hr; have h9 := hsm.row i r hi; omega⟩) ?_
  rintro _ H3 hR3
  obtain ⟨hl3, hR⟩ := hR3.cases
  have h03 := h02.trans hl3
  rcases hR with ⟨hok, rfl⟩ | ⟨hok, hcl, rfl⟩ | ⟨hok, hcl, S, t, Bx, kx, ex, Bd, kd, ed, Br, kr, er, rfl, hchk, hval, hsx, hsd, hsr⟩
  ·
   skip
   refine vco_run tbOk 3 rfl ?_
   refine vco_alloc el36 rfl ?_
   obtain ⟨ti, hti, htz⟩ := sz36; refine vco_bstore (.inl ⟨rfl, rfl⟩) rfl rfl rfl hti htz rfl rfl rfl ?_
   refine vco_run tbOk 1 rfl ?_
   refine vco_k [1, 2, 5, 6] ?_
   refine vc_seq ?_
   refine vc_sr ?_
   refine vco_run tbOk 1 rfl ?_
   refine vco_call rfl rfl (rValid_no (hsm.prog.le hl3) hok) ?_
   rintro _ H4 ⟨e4, rfl⟩
   rw [e4]
   refine vco_run tbOk 1 rfl ?_
   refine vco_k [1, 2, 5, 6, 22] ?_
   refine vc_cond_t rfl ?_
   refine vc_sr ?_
   refine vco_run tbOk 8 rfl ?_
   refine vco_k [4] ?_
   refine vc_ret ⟨.inr rfl, _, .tmp rfl (.nil), ?_⟩
   exact ⟨h03, rfl⟩
  ·
   skip
   refine vco_run tbOk 3 rfl ?_
   refine vco_alloc el36 rfl ?_
   obtain ⟨ti, hti, htz⟩ := sz36; refine vco_bstore (.inl ⟨rfl, rfl⟩) rfl rfl rfl hti htz rfl rfl rfl ?_
   refine vco_run tbOk 1 rfl ?_
   refine vco_k [1, 2, 5, 6] ?_
   refine vc_seq ?_
   refine vc_sr ?_
   refine vco_run tbOk 1 rfl ?_
   refine vco_call rfl rfl (rValid_yes (hsm.prog.le hl3) hok) ?_
   rintro _ H4 ⟨e4, rfl⟩
   rw [e4]
   refine vco_run tbOk 1 rfl ?_
   refine vco_k [1, 2, 5, 6, 22] ?_
   refine vc_cond_f rfl ?_
   refine vc_skip ?_
   refine vc_keep [1, 2, 5, 6] rfl ?_
   refine vc_seq ?_
   refine vc_sr ?_
   refine vco_run tbOk 5 rfl ?_
   refine vco_cmp true rfl rfl (cne_t (by omega)) ?_
   refine vco_k [1, 2, 5, 6, 35] ?_
   refine vc_cond_t rfl ?_
   refine vc_sr ?_
   refine vco_run tbOk 8 rfl ?_
   refine vco_k [4] ?_
   refine vc_ret ⟨.inr rfl, _, .tmp rfl (.nil), ?_⟩
   exact ⟨h03, rfl⟩
  ·
   skip
   refine vco_run tbOk 3 rfl ?_
   refine vco_alloc el36 rfl ?_
   obtain ⟨ti, hti, htz⟩ := sz36; refine vco_bstore (.inl ⟨rfl, rfl⟩) rfl rfl rfl hti htz rfl rfl rfl ?_
   refine vco_run tbOk 1 rfl ?_
   refine vco_k [1, 2, 5, 6] ?_
   refine vc_seq ?_
   refine vc_sr ?_
   refine vco_run tbOk 1 rfl ?_
   refine vco_call rfl rfl (rValid_yes (hsm.prog.le hl3) hok) ?_
   rintro _ H4 ⟨e4, rfl⟩
   rw [e4]
   refine vco_run tbOk 1 rfl ?_
   refine vco_k [1, 2, 5, 6, 22] ?_
   refine vc_cond_f rfl ?_
   refine vc_skip ?_
   refine vc_keep [1, 2, 5, 6] rfl ?_
   refine vc_seq ?_
   refine vc_sr ?_
   refine vco_run tbOk 5 rfl ?_
   refine vco_cmp false rfl rfl (cne_f (by omega)) ?_
   refine vco_k [1, 2, 5, 6, 35] ?_
   refine vc_cond_f rfl ?_
   refine vc_skip ?_
   refine vc_keep [1, 2, 5, 6] rfl ?_
   refine vc_sr ?_
   refine vco_run tbOk 6 rfl ?_
   refine vco_call rfl rfl (Fn.yes (rCheck_ok (N := MX) ((hsm.prog.le hl3).mono (by decide)) ((hvec.le (ratUp 2) hl3).mono fun _ _ h => h.mono (by decide)) hval hsx hsd hsr (by decide)) hchk) ?_
   rintro _ H5 ⟨hl5, rfl⟩
   refine vco_run tbOk 2 rfl ?_
   refine vco_k [4] ?_
   refine vc_ret ⟨.inr rfl, _, .tmp rfl (.nil), ?_⟩
   exact ⟨h03.trans hl5, rfl⟩
end Go.Eng
