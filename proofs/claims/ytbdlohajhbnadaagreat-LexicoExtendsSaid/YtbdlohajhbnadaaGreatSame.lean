/- Walks over package amortcostref22: SameRats, SameProgram, for what is the same. -/
import Derived.Test.YtbdlohajhbnadaaGreatA10
import Derived.Test.YtbdlohajhbnadaaGreatGrw2
import Derived.Test.YtbdlohajhbnadaaGreatChk1
set_option linter.unusedVariables false
namespace Go.Eng
open Go.Proofs Num Lp
theorem sameRats_ok {H : Heap} {av bv : Value} {l : List Rat} {N : Nat} (ha : SlV (RatP N) 3 H av l) (hb : SlV (RatP N) 3 H bv l) (hl : l.length ≤ 4611686018427387904) (hN : (N : Int) ≤ 549755813888) :
  Fn Tryz.prog 20 #[av, bv] H (fun v H' => Heap.le H H' ∧ v = .bool true) := by
 obtain ⟨A, ca, xa, rfl, hca, hra, hxa⟩ := ha
 obtain ⟨B, cb, xb, rfl, hcb, hrb, hxb⟩ := hb; refine fn_intro (args := [_, _]) Tryz.func20 rfl rfl Tryz.ntmps20 rfl rfl fun w0 => ?_; refine vc_keep [0, 1] rfl ?_; refine vc_sr ?_; refine vr 1 ?_; refine vco_k [0, 1] ?_; refine vc_seq ?_; refine vc_sr ?_; refine vr 5 ?_; refine vco_k [0, 1, 10] ?_; refine vc_cond rfl (fun hb => ?_) (fun hb => ?_)
 ·
  simp at hb
 ·
  skip
  refine vc_skip ?_; refine vc_keep [0, 1] rfl ?_; refine vc_seq ?_; refine vc_sr ?_; refine vr 3 ?_; refine vco_k [0, 1, 12, 13] ?_; refine vc_block ?_; refine vc_loop1 (fun (i : Nat) => l.length - i) (fun (i : Nat) => put (put (put (put (emp) 0 (.val (.slice A l.length ca))) 1 (.val (.slice B l.length cb))) 12 (.val (.int .i64 (l.length : Int)))) 13 (.val (.int .i64 (i : Int)))) (fun (i : Nat) H' => Heap.le H H' ∧ i ≤ l.length) 0 (⟨.refl _, Nat.zero_le _⟩) sub_auto ?_; rintro i H1 ⟨h1, hi⟩; refine vc_sr ?_; refine vr 1 ?_; refine vco_k [0, 1, 12, 13, 14] ?_; refine vc_seq ?_; refine vc_cond rfl (fun hb => ?_) (fun hb => ?_)
  ·
   have hil : i < l.length := by simpa using hb
   obtain ⟨q, hq⟩ : ∃ q, l[i]? = some q := ⟨_, List.getElem?_eq_getElem hil⟩; obtain ⟨f1, A1, k1, c1, A2, k2, c2, hs1, hraw1, hx1⟩ := SlV.seg3 hxa hq; obtain ⟨f3, A3, k3, c3, A4, k4, c4, hs3, hraw3, hx3⟩ := SlV.seg3 hxb hq; refine vc_skip ?_; refine vc_keep [0, 1, 12, 13] rfl ?_; refine vc_seq ?_; refine vc_block ?_; refine vc_sr ?_; refine vr 2 ?_; refine vco_k [0, 1, 5, 12, 13] ?_; refine vc_sd .drawB [0, 1, 2, 3, 4, 5, 6, 7, 8, 9] follows (by kernel_rfl) ?_; refine vr 2 ?_; refine vco_at_st (vs := [.bool f1, .slice A1 k1 c1, .slice A2 k2 c2]) tbOk rfl rfl rfl rfl (hra.le h1) rfl (by decide) hx1 (by omega) (by omega) fun _ => ?_; refine vr 2 ?_; refine vco_at_st (vs := [.bool f3, .slice A3 k3 c3, .slice A4 k4 c4]) tbOk rfl rfl rfl rfl (hrb.le h1) rfl (by decide) hx3 (by omega) (by omega) fun _ => ?_; refine vco_callM rfl rfl ((rCmp_ok (N := N) (hraw1.le h1) (hraw3.le h1) (by omega)).mono fun v H' h => (⟨h.1, by rw [h.2, cmpQ_self]⟩ : Heap.le H1 H' ∧ v = .int .i64 0)) (fun _ _ h => by first | exact h.le | exact h.1) ?_; rintro _ H2 ⟨hl2, rfl⟩; refine vr 1 ?_; refine vco_k [0, 1, 12, 13, 25] ?_; refine vc_cond rfl (fun hb => ?_) (fun hb => ?_)
   ·
    simp at hb
   ·
    skip
    refine vc_skip ?_; refine vc_keep [0, 1, 12, 13] rfl ?_; refine vc_region rfl ?_; refine vco_add rfl rfl ⟨by omega, by omega⟩ ?_; refine vr 1 ?_; refine vco_end ?_; exact ⟨i + 1, by omega, sub_auto, h1.trans hl2, by omega⟩
  ·
   skip
   refine vc_exit ?_; refine vc_keep [] rfl ?_; refine vc_sr ?_; refine vr 1 ?_; refine vco_k [4] ?_; refine vc_ret ⟨.inr rfl, _, .tmp rfl (.nil), ?_⟩; exact ⟨h1, rfl⟩
theorem sameProg_ok {H : Heap} {av bv : Value} {p : Prg} {N : Nat} (ha : ProgV N H av p) (hb : ProgV N H bv p) (hok : p.Ok) (hN : (N : Int) ≤ 549755813888) :
  Fn Tryz.prog 32 #[av, bv] H (fun v H' => Heap.le H H' ∧ v = .bool true) := by
 obtain ⟨fv, rv0, rfl, hfv, hrv0⟩ := id ha
 obtain ⟨Af, cf, xf, rfl, hrF, hxF⟩ := hfv.one
 obtain ⟨Ar, cr, xr, rfl, hcr, hrR, hxR⟩ := hrv0
 obtain ⟨fv', rv1, rfl, hfv', hrv1⟩ := id hb
 obtain ⟨Bf, df, yf, rfl, hrG, hxG⟩ := hfv'.one
 obtain ⟨Br, dr, yr, rfl, hdr, hrS, hxS⟩ := hrv1
 have hn4 := hok.cols
 have hm8 := hok.rows; refine fn_intro (args := [_, _]) Tryz.func32 rfl rfl Tryz.ntmps32 rfl rfl fun w0 => ?_; refine vc_keep [0, 1] rfl ?_; refine vc_sr ?_; refine vco_box rfl rfl ?_; refine vco_box rfl rfl ?_; refine vr 1 ?_; refine vco_k [2, 3] ?_; refine vc_seq ?_; refine vc_sr ?_; refine vr 6 ?_; refine vco_cmp false rfl rfl (cne_f rfl) ?_; refine vr 7 ?_; refine vco_cmp false rfl rfl (cne_f rfl) ?_; refine vr 1 ?_; refine vco_k [2, 3, 24] ?_; refine vc_cond_f rfl ?_; refine vc_skip ?_; refine vc_keep [2, 3] rfl ?_; refine vc_seq ?_; refine vc_sr ?_; refine vr 4 ?_; refine vco_k [2, 3, 27, 28] ?_; refine vc_block ?_; refine vc_loop1 (fun (j : Nat) => p.free.length - j) (fun (j : Nat) => put (put (put (put (emp) 2 (.box [.slice Af p.free.length cf, .slice Ar p.rows.length cr])) 3 (.box [.slice Bf p.free.length df, .slice Br p.rows.length dr])) 27 (.val (.int .i64 (p.free.length : Int)))) 28 (.val (.int .i64 (j : Int)))) (fun (j : Nat) H' => H' = H ∧ j ≤ p.free.length) 0 (⟨rfl, Nat.zero_le _⟩) sub_auto ?_; rintro j H1 ⟨e1, hj⟩; rw [e1]; refine vc_sr ?_; refine vr 1 ?_; refine vco_k [2, 3, 27, 28, 29] ?_; refine vc_seq ?_; refine vc_cond rfl (fun hb => ?_) (fun hb => ?_)
 ·
  have hjn : j < p.free.length := by simpa using hb
  obtain ⟨b, hbk⟩ : ∃ b, p.free[j]? = some b := ⟨_, List.getElem?_eq_getElem hjn⟩; obtain ⟨u, hu, hub⟩ := hxF j b hbk
  cases hub
  obtain ⟨u, hu', hub⟩ := hxG j b hbk
  cases hub
  refine vc_skip ?_; refine vc_keep [2, 3, 27, 28] rfl ?_; refine vc_seq ?_; refine vc_block ?_; refine vc_sr ?_; refine vr 2 ?_; refine vco_k [2, 3, 5, 27, 28] ?_; refine vc_sd .drawB [0, 1, 2, 3, 4, 5, 6, 7, 8, 9, 10] follows (by kernel_rfl) ?_; refine vr 3 ?_; refine vco_at tbOk rfl rfl rfl rfl rfl (hrF) (by rw [Int.toNat_natCast]; exact hu) (by omega) (by omega) fun _ => ?_; refine vr 3 ?_; refine vco_at tbOk rfl rfl rfl rfl rfl (hrG) (by rw [Int.toNat_natCast]; exact hu') (by omega) (by omega) fun _ => ?_; refine vco_neb Tryz.underlying4 rfl rfl ?_; refine vco_k [2, 3, 27, 28, 41] ?_; refine vc_cond rfl (fun hb => ?_) (fun hb => ?_)
  ·
   simp at hb
  ·
   skip
   refine vc_skip ?_; refine vc_keep [2, 3, 27, 28] rfl ?_; refine vc_region rfl ?_; refine vco_add rfl rfl ⟨by omega, by omega⟩ ?_; refine vr 1 ?_; refine vco_end ?_; exact ⟨j + 1, by omega, sub_auto, rfl, by omega⟩
 ·
  skip
  refine vc_exit ?_; refine vc_keep [2, 3] rfl ?_; refine vc_seq ?_; refine vc_sr ?_; refine vr 4 ?_; refine vco_k [2, 3, 45, 46] ?_; refine vc_block ?_; refine vc_loop1 (fun (i : Nat) => p.rows.length - i) (fun (i : Nat) => put (put (put (put (emp) 2 (.box [.slice Af p.free.length cf, .slice Ar p.rows.length cr])) 3 (.box [.slice Bf p.free.length df, .slice Br p.rows.length dr])) 45 (.val (.int .i64 (p.rows.length : Int)))) 46 (.val (.int .i64 (i : Int)))) (fun (i : Nat) H' => Heap.le H H' ∧ i ≤ p.rows.length) 0 (⟨.refl _, Nat.zero_le _⟩) sub_auto ?_; rintro i H1 ⟨h1, hi⟩; refine vc_sr ?_; refine vr 1 ?_; refine vco_k [2, 3, 45, 46, 47] ?_; refine vc_seq ?_; refine vc_cond rfl (fun hb => ?_) (fun hb => ?_)
  ·
   have him : i < p.rows.length := by simpa using hb
   obtain ⟨r, hr⟩ : ∃ r, p.rows[i]? = some r := ⟨_, List.getElem?_eq_getElem him⟩; have hrn := (hok.row i r hr).1; obtain ⟨A0a, c0a, fa, A1a, m1a, c1a, A2a, m2a, c2a, hsga, hsla, hrawa, hrxa⟩ := SlV.segR hxR hr; obtain ⟨A0b, c0b, fb, A1b, m1b, c1b, A2b, m2b, c2b, hsgb, hslb, hrawb, hrxb⟩ := SlV.segR hxS hr; refine vc_skip ?_; refine vc_keep [2, 3, 45, 46] rfl ?_; refine vc_seq ?_; refine vc_block ?_; refine vc_sr ?_; refine vr 2 ?_; refine vco_k [2, 3, 6, 45, 46] ?_; refine vc_sd (.drawT [7, 8]) [0, 1, 2, 3, 4, 5, 6, 7, 8, 9, 10, 11, 12, 13] follows (by kernel_rfl) ?_; refine vr 3 ?_; refine vco_at_st (vs := [.slice A0a r.1.length c0a, .int .i64 r.2.1, .bool fa, .slice A1a m1a c1a, .slice A2a m2a c2a]) tbOk rfl rfl rfl rfl (hrR.le h1) rfl (by decide) hrxa (by omega) (by omega) fun _ => ?_; refine vr 3 ?_; refine vco_at_st (vs := [.slice A0b r.1.length c0b, .int .i64 r.2.1, .bool fb, .slice A1b m1b c1b, .slice A2b m2b c2b]) tbOk rfl rfl rfl rfl (hrS.le h1) rfl (by decide) hrxb (by omega) (by omega) fun _ => ?_; refine vco_alloc el63 rfl ?_; refine vco_alloc el63 rfl ?_; obtain ⟨ti, hti, htz⟩ := sz63; refine vco_bstore (.inl ⟨rfl, rfl⟩) rfl rfl rfl hti htz rfl rfl rfl ?_; obtain ⟨ti, hti, htz⟩ := sz63; refine vco_bstore (.inl ⟨rfl, rfl⟩) rfl rfl rfl hti htz rfl rfl rfl ?_; refine vco_k [2, 3, 7, 8, 45, 46] ?_; refine vc_sr ?_; refine vr 4 ?_; refine vco_cmp false rfl rfl (cne_f rfl) ?_; refine vr 5 ?_; refine vco_call rfl rfl (sameRats_ok (hsla.le (ratUp N) h1) (hslb.le (ratUp N) h1) (by omega) hN) ?_
   rintro _ H2 ⟨hl2, rfl⟩; refine vr 7 ?_; refine vco_call rfl rfl ((rCmp_ok (N := N) ((hrawa.le h1).le hl2) ((hrawb.le h1).le hl2) (by omega)).mono fun v H' h => (⟨h.1, by rw [h.2, cmpQ_self]⟩ : Heap.le H2 H' ∧ v = .int .i64 0)) ?_; rintro _ H3 ⟨hl3, rfl⟩; refine vr 2 ?_; refine vco_k [2, 3, 45, 46, 79] ?_; refine vc_cond rfl (fun hb => ?_) (fun hb => ?_)
   ·
    simp at hb
   ·
    skip
    refine vc_skip ?_; refine vc_keep [2, 3, 45, 46] rfl ?_; refine vc_region rfl ?_; refine vco_add rfl rfl ⟨by omega, by omega⟩ ?_; refine vr 1 ?_; refine vco_end ?_; exact ⟨i + 1, by omega, sub_auto, (h1.trans hl2).trans hl3, by omega⟩
  ·
   skip
   refine vc_exit ?_; refine vc_keep [] rfl ?_; refine vc_sr ?_; refine vr 1 ?_; refine vco_k [4] ?_; refine vc_ret ⟨.inr rfl, _, .tmp rfl (.nil), ?_⟩; exact ⟨h1, rfl⟩
end Go.Eng
