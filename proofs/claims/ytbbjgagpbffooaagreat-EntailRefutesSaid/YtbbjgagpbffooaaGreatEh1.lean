/- Walks: entail.Holds; ref22.ValueOf, ref22.Holds. -/
import Derived.Test.YtbbjgagpbffooaaGreatA10
import Derived.Test.YtbbjgagpbffooaaGreatHld
import Derived.Test.YtbbjgagpbffooaaGreatEn7
import Derived.Test.YtbbjgagpbffooaaGreatEn6
set_option linter.unusedVariables false
namespace Go.Eng
open Go.Proofs Num Lp
/-- What ValueOf gives. -/
def ValQ (f : Lin) (vs : List Int) (ys : List Rat) (H : Heap) (v : Value) (H' : Heap) : Prop := Heap.le H H' ∧ ∃ (t : RC) (b : Bool) (q : Rat), v = .tuple #[t.v, .bool b] ∧ (b = true ↔ ∀ (k : Nat) (u : Int × Int), f.ts[k]? = some u → u.1 ∈ vs) ∧ RawV H' t.v q 1000000000000 ∧ (b = true → q = f.eval (asg vs ys))
theorem rvalueof_ok {H : Heap} {vv yv : Value} {f : Lin} {A0 : Option Addr} {c0 : Nat} {vs : List Int} {ys : List Rat} {N : Nat} (hfs : SlV TermP 2 H (.slice A0 f.ts.length c0) f.ts) (hvs : SlV IntP 1 H vv vs) (hys : SlV (RatP N) 3 H yv ys) (hN : N ≤ 400000000) (hvl : vs.length ≤ 1000) (hlen : vs.length = ys.length) (hasc : Asc vs) (hfo : LinOk f) :
  Fn Tryz.prog 40 #[.agg #[.int .i64 f.c, .slice A0 f.ts.length c0], vv, yv] H (ValQ f vs ys H) := by
 obtain ⟨Av, cv, xv, rfl, hcv, hrv, hxv⟩ := id hvs
 have hyz := hys.rsize
 obtain ⟨Ay, cy, xy, rfl, hcy, hry, hxy⟩ := id hys
 obtain ⟨_, _, xb, e, hcb, hrb, hxb⟩ := id hfs
 cases e
 have hf16 := hfo.len
 have hfc := hfo.const
 have hsz := lin_sz (vs := vs) hyz hN hfo; refine fn_intro (args := [_, _, _]) Tryz.func40 rfl rfl Tryz.ntmps40 rfl rfl fun w0 => ?_; refine vc_keep [0, 1, 2] rfl ?_; refine vc_sr ?_; refine vco_box rfl rfl ?_; refine vco_alloc el36 rfl ?_; refine vr 1 ?_; refine vco_k [1, 2, 3, 6] ?_; refine vc_sr ?_; refine vr 2 ?_; refine vco_call rfl rfl ((rFromInt_ok (n := f.c) (by omega) (by omega)).rc) ?_; rintro _ H4 ⟨hl4, t4, rfl, hq4⟩; refine vco_alloc el36 rfl ?_; obtain ⟨ti, hti, htz⟩ := sz36; refine vco_bstore (.inl ⟨rfl, rfl⟩) rfl rfl rfl hti htz rfl rfl rfl ?_; refine vco_k [1, 2, 3, 6, 8] ?_; refine vc_seq ?_; refine vc_sr ?_; refine vr 4 ?_; refine vco_k [1, 2, 3, 6, 8, 17, 18] ?_; refine vc_block ?_; refine vc_loop2 (fun (k : Nat) (t : RC) => f.ts.length - k) (fun (k : Nat) (t : RC) => put (put (put (put (put (put (put (emp) 1 (.val (.slice Av vs.length cv))) 2 (.val (.slice Ay ys.length cy))) 3 (.box [.int .i64 f.c, .slice A0 f.ts.length c0])) 6 (.box [.bool false, .slice none 0 0, .slice none 0 0])) 8 (.box [.bool t.f, .slice t.A1 t.m1 t.c1, .slice t.A2 t.m2 t.c2])) 17 (.val (.int .i64 (f.ts.length : Int)))) 18 (.val (.int .i64 (k : Int)))) (fun (k : Nat) (t : RC) H' => Heap.le H4 H' ∧ CanV H' t.v (((f.c : Int) : Rat) + evalT (asg vs ys) (f.ts.take k)) ∧ k ≤ f.ts.length ∧ ∀ (j : Nat) (u : Int × Int), j < k → f.ts[j]? = some u → u.1 ∈ vs) 0 t4 (⟨.refl _, by show CanV H4 t4.v (_ + 0); rw [Rat.add_zero]; exact hq4, Nat.zero_le _, fun j u h => by omega⟩) sub_auto ?_
 rintro k t H5 ⟨hl5, hq5, hk5, hall5⟩; have h05 := hl4.trans hl5; refine vc_sr ?_; refine vr 1 ?_; refine vco_k [1, 2, 3, 6, 8, 17, 18, 19] ?_; refine vc_seq ?_; refine vc_cond rfl (fun hb => ?_) (fun hb => ?_)
 ·
  have hkm : k < f.ts.length := by simpa using hb
  obtain ⟨u, hu⟩ : ∃ u, f.ts[k]? = some u := ⟨_, List.getElem?_eq_getElem hkm⟩; have hut := hfo.term k u hu; refine vc_skip ?_; refine vc_keep [1, 2, 3, 6, 8, 17, 18] rfl ?_; refine vc_seq ?_; refine vc_block ?_; refine vc_sr ?_; refine vr 2 ?_; refine vco_k [1, 2, 3, 6, 8, 9, 17, 18] ?_; refine vc_sr ?_; refine vr 1 ?_; refine vco_k [1, 2, 3, 6, 8, 9, 10, 17, 18] ?_; refine vc_seq ?_; refine vc_sr ?_; refine vr 3 ?_; refine vco_k [1, 2, 3, 6, 8, 9, 10, 17, 18, 22, 23] ?_; refine vc_block ?_; refine vc_loop2 (fun (m : Nat) (z : Int) => vs.length - m) (fun (m : Nat) (z : Int) => put (put (put (put (put (put (put (put (put (put (put (emp) 1 (.val (.slice Av vs.length cv))) 2 (.val (.slice Ay ys.length cy))) 3 (.box [.int .i64 f.c, .slice A0 f.ts.length c0])) 6 (.box [.bool false, .slice none 0 0, .slice none 0 0])) 8 (.box [.bool t.f, .slice t.A1 t.m1 t.c1, .slice t.A2 t.m2 t.c2])) 9 (.val (.int .i64 (k : Int)))) 10 (.val (.int .i64 z))) 17 (.val (.int .i64 (f.ts.length : Int)))) 18 (.val (.int .i64 (k : Int)))) 22 (.val (.int .i64 (vs.length : Int)))) 23 (.val (.int .i64 (m : Int)))) (fun (m : Nat) (z : Int) H' => H' = H5 ∧ m ≤ vs.length ∧ ((z = -1 ∧ ∀ j, j < m → vs[j]? ≠ some u.1) ∨ ∃ j : Nat, vs[j]? = some u.1 ∧ z = j)) 0 (-1) (⟨rfl, Nat.zero_le _, .inl ⟨rfl, fun j h => by omega⟩⟩) sub_auto ?_; rintro m z H6 ⟨e6, hm6, hz6⟩; rw [e6]; refine vc_sr ?_; refine vr 1 ?_; refine vco_k [1, 2, 3, 6, 8, 9, 10, 17, 18, 22, 23, 24] ?_
  refine vc_seq ?_; refine vc_cond rfl (fun hb => ?_) (fun hb => ?_)
  ·
   have hmm : m < vs.length := by simpa using hb
   obtain ⟨x1, hx1⟩ : ∃ x, vs[m]? = some x := ⟨_, List.getElem?_eq_getElem hmm⟩; refine vc_skip ?_; refine vc_keep [1, 2, 3, 6, 8, 9, 10, 17, 18, 22, 23] rfl ?_; refine vc_seq ?_; refine vc_block ?_; refine vc_sr ?_; refine vr 2 ?_; refine vco_k [1, 2, 3, 6, 8, 9, 10, 11, 17, 18, 22, 23] ?_; refine vc_sd .drawB [0, 1, 2, 3, 4, 5, 6, 7, 8, 9, 10] follows (by kernel_rfl) ?_; refine vr 2 ?_; refine vco_at tbOk rfl rfl rfl rfl rfl (hrv.le h05) (by rw [Int.toNat_natCast]; exact int_get hxv hx1) (by omega) (by omega) fun _ => ?_; refine vr 3 ?_; refine vco_atf tbOk rfl rfl rfl rfl rfl rfl rfl (hrb.le h05) (term_get hxb hu 0 _ rfl) (by omega) (by omega) fun _ _ => ?_; refine vr 1 ?_; refine vco_k [1, 2, 3, 6, 8, 9, 10, 11, 17, 18, 22, 23, 36] ?_; refine vc_cond rfl (fun hb => ?_) (fun hb => ?_)
   ·
    have he : x1 = u.1 := by simpa using hb
    refine vc_region rfl ?_; refine vr 2 ?_; refine vco_end ?_; refine vc_keep [1, 2, 3, 6, 8, 9, 10, 17, 18, 22, 23] rfl ?_; refine vc_region rfl ?_; refine vco_add rfl rfl ⟨by omega, by omega⟩ ?_; refine vr 1 ?_; refine vco_end ?_; exact ⟨m + 1, m, by omega, sub_auto, rfl, by omega, .inr ⟨m, by rw [hx1, he], rfl⟩⟩
   ·
    have he : ¬ x1 = u.1 := by simpa using hb
    refine vc_skip ?_; refine vc_keep [1, 2, 3, 6, 8, 9, 10, 17, 18, 22, 23] rfl ?_; refine vc_region rfl ?_; refine vco_add rfl rfl ⟨by omega, by omega⟩ ?_; refine vr 1 ?_; refine vco_end ?_; exact ⟨m + 1, z, by omega, sub_auto, rfl, by omega, hz6.imp (fun h => ⟨h.1, fun j hj => by by_cases e : j < m; exact h.2 j e; (obtain rfl : j = m := by omega); rw [hx1]; exact fun h9 => he (by cases h9; rfl)⟩) id⟩
  ·
   have hb : vs.length ≤ m := by simpa using hb
   obtain rfl : m = vs.length := by omega
   refine vc_exit ?_; refine vc_keep [1, 2, 3, 6, 8, 9, 10, 17, 18] rfl ?_; refine vc_seq ?_
   rcases hz6 with ⟨rfl, hno⟩|⟨j, hm, rfl⟩
   ·
    skip
    refine vc_sr ?_; refine vr 1 ?_; refine vco_cmp true rfl rfl (clt_t (by omega)) ?_; refine vr 6 ?_; refine vco_k [1, 2, 3, 6, 8, 9, 10, 17, 18, 46] ?_; refine vc_cond_t rfl ?_; refine vc_sr ?_; refine vco_st tbOk rfl el36 rfl rfl ?_; obtain ⟨ti, hti, htz⟩ := sz36; refine vco_bstore (.inl ⟨rfl, rfl⟩) rfl rfl rfl hti htz rfl rfl rfl ?_; refine vr 1 ?_; refine vco_k [6, 7] ?_; obtain ⟨ri0, rhi0, rhz0⟩ := sz36; refine vc_ret ⟨.inr rfl, _, .agg rfl Tryz.underlying36 rhi0 rhz0 (.tmp rfl (.nil)), ?_⟩; exact ⟨h05, rc0, false, 0, rfl, ⟨(fun h => by cases h), fun h => (by obtain ⟨j, hj⟩ := List.getElem?_of_mem (h k u hu); exact absurd hj (hno j (List.getElem?_eq_some_iff.1 hj).1))⟩, rawV_zero, fun h => by cases h⟩
   ·
    have hjl := (List.getElem?_eq_some_iff.1 hm).1; refine vc_sr ?_; refine vr 1 ?_; refine vco_cmp false rfl rfl (clt_f (by omega)) ?_; refine vr 4 ?_; refine vco_cmp false rfl rfl (cge_f (by omega)) ?_; refine vr 1 ?_; refine vco_k [1, 2, 3, 6, 8, 9, 10, 17, 18, 46] ?_; refine vc_cond_f rfl ?_; refine vc_skip ?_; refine vc_keep [1, 2, 3, 6, 8, 9, 10, 17, 18] rfl ?_; obtain ⟨q, hqj⟩ : ∃ q, ys[j]? = some q := ⟨_, List.getElem?_eq_getElem (by omega)⟩; obtain ⟨g5, B1, k1, e1, B2, k2, e2, hsg5, hraw5, hqx⟩ := SlV.seg3 hxy hqj; have hasg := asg_at hasc hm hqj; have hz1 := hsz (k + 1); have hz2 := hsz k; have hz3 := szQ_mul ((u.2 : Int) : Rat) q; have hz4 := hraw5.size; have hz5 := szQ_int (n := u.2) (by omega); refine vc_draw .drawB [0, 1, 2, 3, 4, 5, 6, 8, 9, 10, 11, 7, 12, 13, 14] follows (by kernel_rfl) ?_; refine vr 4 ?_; refine vco_atf tbOk rfl rfl rfl rfl rfl rfl rfl (hrb.le h05) (term_get hxb hu 1 _ rfl) (by omega) (by omega) fun _ _ => ?_; refine vr 2 ?_; refine vco_at_st (vs := [.bool g5, .slice B1 k1 e1, .slice B2 k2 e2]) tbOk rfl rfl rfl rfl (hry.le h05) rfl (by decide) hqx (by omega) (by omega) fun _ => ?_; refine vco_callM rfl rfl ((rFromInt_ok (n := u.2) (by omega) (by omega)).rc) (fun _ _ h => by first | exact h.le | exact h.1) ?_; rintro _ H6 ⟨hl6, t6, rfl, hq6⟩; refine vco_callM rfl rfl ((rMul_ok (N := N + 20) ((CanV.raw hq6).mono (by omega)) (((hraw5.le h05).le hl6).mono (by omega)) (by omega)).rc) (fun _ _ h => by first | exact h.le | exact h.1) ?_
    rintro _ H7 ⟨hl7, t7, rfl, hq7⟩; refine vco_callM rfl rfl ((rAdd_ok (N := 1000000000000) (((CanV.raw hq5).mono (by omega)).le (hl6.trans hl7)) ((CanV.raw hq7).mono (by omega)) (by decide)).rc) (fun _ _ h => by first | exact h.le | exact h.1) ?_; rintro _ H8 ⟨hl8, t8, rfl, hq8⟩; rw [Rat.add_assoc, ← hasg, ← evalT_take (asg vs ys) hu] at hq8; obtain ⟨ti, hti, htz⟩ := sz36; refine vco_bstore (.inl ⟨rfl, rfl⟩) rfl rfl rfl hti htz rfl rfl rfl ?_; refine vco_end ?_; refine vc_keep [1, 2, 3, 6, 8, 17, 18] rfl ?_; refine vc_region rfl ?_; refine vco_add rfl rfl ⟨by omega, by omega⟩ ?_; refine vr 1 ?_; refine vco_end ?_; exact ⟨k + 1, t8, by omega, sub_auto, hl5.trans (hl6.trans (hl7.trans hl8)), hq8, by omega, fun j u9 h9 hu9 => by by_cases e : j < k; exact hall5 j u9 e hu9; (obtain rfl : j = k := by omega); rw [hu] at hu9; cases hu9; exact List.mem_of_getElem? hm⟩
 ·
  have hb : f.ts.length ≤ k := by simpa using hb
  obtain rfl : k = f.ts.length := by omega
  refine vc_exit ?_; refine vc_keep [6, 8] rfl ?_; refine vc_sr ?_; refine vr 1 ?_; obtain ⟨ti, hti, htz⟩ := sz36; refine vco_bstore (.inl ⟨rfl, rfl⟩) rfl rfl rfl hti htz rfl rfl rfl ?_; refine vr 1 ?_; refine vco_k [6, 7] ?_; obtain ⟨ri0, rhi0, rhz0⟩ := sz36; refine vc_ret ⟨.inr rfl, _, .agg rfl Tryz.underlying36 rhi0 rhz0 (.tmp rfl (.nil)), ?_⟩; exact ⟨h05, t, true, _, rfl, ⟨fun _ j u hu => hall5 j u (List.getElem?_eq_some_iff.1 hu).1 hu, fun _ => rfl⟩, (CanV.raw hq5).mono (by have := hsz f.ts.length; omega), fun _ => eval_all⟩
theorem rholds_ok {H : Heap} {v vv yv : Value} {fs : List Lin} {vs : List Int} {ys : List Rat} {N : Nat} (hv : FmV H v fs) (hvs : SlV IntP 1 H vv vs) (hys : SlV (RatP N) 3 H yv ys) (hN : N ≤ 400000000) (hvl : vs.length ≤ 1000) :
  Fn Tryz.prog 37 #[v, vv, yv] H (fun v' H' => Heap.le H H' ∧ ∃ b, v' = .bool b ∧ (b = true ↔ HoldsE fs vs ys)) := by
 obtain ⟨A, c, xs, rfl, hc, hr, hx⟩ := id hv
 obtain ⟨Av, cv, xv, rfl, hcv, hrv, hxv⟩ := id hvs
 have hyz := hys.rsize
 obtain ⟨Ay, cy, xy, rfl, hcy, hry, hxy⟩ := id hys; refine fn_intro (args := [_, _, _]) Tryz.func37 rfl rfl Tryz.ntmps37 rfl rfl fun w0 => ?_; refine vc_keep [0, 1, 2] rfl ?_; refine vc_sr ?_; refine vr 1 ?_; refine vco_k [0, 1, 2] ?_; refine vc_seq ?_; refine vc_sr ?_; refine vr 1 ?_; refine vco_call rfl rfl (rvalidfacts_ok hv) ?_; rintro _ H1 ⟨hl1, b1, rfl, hb1⟩
 cases b1
 ·
  skip
  refine vr 8 ?_; refine vco_k [0, 1, 2, 20] ?_; refine vc_cond_t rfl ?_; refine vc_sr ?_; refine vr 1 ?_; refine vco_k [6] ?_; refine vc_ret ⟨.inr rfl, _, .tmp rfl (.nil), ?_⟩; exact ⟨hl1, false, rfl, ⟨(fun h => by cases h), fun h => by have h9 := hb1.2 h.ok; cases h9⟩⟩
 ·
  skip
  refine vr 8 ?_; refine vco_k [0, 1, 2, 20] ?_; refine vc_cond rfl (fun hb => ?_) (fun hb => ?_)
  ·
   have h1 : ¬ vs.length = ys.length := by simpa [Int.natCast_inj] using hb
   refine vc_sr ?_; refine vr 1 ?_; refine vco_k [6] ?_; refine vc_ret ⟨.inr rfl, _, .tmp rfl (.nil), ?_⟩; exact ⟨hl1, false, rfl, ⟨(fun h => by cases h), fun h => absurd h.len h1⟩⟩
  ·
   have h1 : vs.length = ys.length := by simpa [Int.natCast_inj] using hb
   have hfo := hb1.1 rfl; have hf200 := hfo.len; refine vc_skip ?_; refine vc_keep [0, 1, 2] rfl ?_; refine vc_seq ?_; refine vc_sr ?_; refine vr 3 ?_; refine vco_k [0, 1, 2, 22, 23] ?_; refine vc_block ?_; refine vc_loop1 (fun (i : Nat) => vs.length - i) (fun (i : Nat) => put (put (put (put (put (emp) 0 (.val (.slice A fs.length c))) 1 (.val (.slice Av vs.length cv))) 2 (.val (.slice Ay ys.length cy))) 22 (.val (.int .i64 (vs.length : Int)))) 23 (.val (.int .i64 (i : Int)))) (fun (i : Nat) H' => H' = H1 ∧ i ≤ vs.length ∧ ∀ (j : Nat) (a b : Int), j + 1 < i → vs[j]? = some a → vs[j + 1]? = some b → a < b) 0 (⟨rfl, Nat.zero_le _, fun j a b h => by omega⟩) sub_auto ?_; rintro i H2 ⟨e2, hi, hk⟩; rw [e2]; refine vc_sr ?_; refine vr 1 ?_; refine vco_k [0, 1, 2, 22, 23, 24] ?_; refine vc_seq ?_; refine vc_cond rfl (fun hb => ?_) (fun hb => ?_)
   ·
    have him : i < vs.length := by simpa using hb
    refine vc_skip ?_; refine vc_keep [0, 1, 2, 22, 23] rfl ?_; refine vc_seq ?_; refine vc_block ?_; refine vc_sr ?_; refine vr 2 ?_; refine vco_k [0, 1, 2, 7, 22, 23] ?_
    by_cases v4 : i = 0
    ·
     skip
     refine vc_sd .drawB [0, 1, 2, 3, 4, 5, 6, 7, 8, 9, 10, 11, 12, 13] follows (by kernel_rfl) ?_; refine vr 1 ?_; refine vco_cmp false rfl rfl (cgt_f (by omega)) ?_; refine vr 12 ?_; refine vco_k [0, 1, 2, 22, 23, 39] ?_; refine vc_cond_f rfl ?_; refine vc_skip ?_; refine vc_keep [0, 1, 2, 22, 23] rfl ?_; refine vc_region rfl ?_; refine vco_add rfl rfl ⟨by omega, by omega⟩ ?_; refine vr 1 ?_; refine vco_end ?_; exact ⟨i + 1, by omega, sub_auto, rfl, by omega, fun j a9 b9 hj ha9 hb9 => by by_cases e : j + 1 < i; exact hk j a9 b9 e ha9 hb9; omega⟩
    ·
     obtain ⟨a, ha⟩ : ∃ a, vs[i - 1]? = some a := ⟨_, List.getElem?_eq_getElem (by omega)⟩; obtain ⟨b, hbx⟩ : ∃ b, vs[i]? = some b := ⟨_, List.getElem?_eq_getElem him⟩; refine vc_sd .drawB [0, 1, 2, 3, 4, 5, 6, 7, 8, 9, 10, 11, 12, 13] follows (by kernel_rfl) ?_; refine vr 1 ?_; refine vco_cmp true rfl rfl (cgt_t (by omega)) ?_; refine vr 3 ?_; refine vco_sub rfl rfl ⟨by omega, by omega⟩ ?_; refine vco_at tbOk rfl rfl rfl rfl rfl (hrv.le hl1) (by rw [toNat_pred (by omega)]; exact int_get hxv ha) (by omega) (by omega) fun _ => ?_; refine vr 2 ?_; refine vco_at tbOk rfl rfl rfl rfl rfl (hrv.le hl1) (by rw [Int.toNat_natCast]; exact int_get hxv hbx) (by omega) (by omega) fun _ => ?_; refine vr 2 ?_; refine vco_k [0, 1, 2, 22, 23, 39] ?_; refine vc_cond rfl (fun hb => ?_) (fun hb => ?_)
     ·
      have h2 : ¬ a < b := by simpa using hb
      refine vc_sr ?_; refine vr 1 ?_; refine vco_k [6] ?_; refine vc_ret ⟨.inr rfl, _, .tmp rfl (.nil), ?_⟩; exact ⟨hl1, false, rfl, ⟨(fun h => by cases h), fun h => absurd (adj_asc h.asc ha (by rw [show i - 1 + 1 = i by omega]; exact hbx)) h2⟩⟩
     ·
      have h2 : a < b := by simpa using hb
      refine vc_skip ?_; refine vc_keep [0, 1, 2, 22, 23] rfl ?_; refine vc_region rfl ?_; refine vco_add rfl rfl ⟨by omega, by omega⟩ ?_; refine vr 1 ?_; refine vco_end ?_; exact ⟨i + 1, by omega, sub_auto, rfl, by omega, fun j a9 b9 hj ha9 hb9 => by by_cases e : j + 1 < i; exact hk j a9 b9 e ha9 hb9; (obtain rfl : j = i - 1 := by omega); rw [ha] at ha9; rw [show i - 1 + 1 = i by omega, hbx] at hb9; cases ha9; cases hb9; exact h2⟩
   ·
    have hb : vs.length ≤ i := by simpa using hb
    have hasc : Asc vs := asc_adj fun j a b h1 h2 => hk j a b (by have := (List.getElem?_eq_some_iff.1 h2).1; omega) h1 h2; refine vc_exit ?_; refine vc_keep [0, 1, 2] rfl ?_; refine vc_seq ?_; refine vc_sr ?_; refine vr 3 ?_; refine vco_k [0, 1, 2, 42, 43] ?_; refine vc_block ?_; refine vc_loop1 (fun (i : Nat) => fs.length - i) (fun (i : Nat) => put (put (put (put (put (emp) 0 (.val (.slice A fs.length c))) 1 (.val (.slice Av vs.length cv))) 2 (.val (.slice Ay ys.length cy))) 42 (.val (.int .i64 (fs.length : Int)))) 43 (.val (.int .i64 (i : Int)))) (fun (i : Nat) H' => Heap.le H1 H' ∧ i ≤ fs.length ∧ ∀ (j : Nat) (f : Lin), j < i → fs[j]? = some f → (∀ (k : Nat) (t : Int × Int), f.ts[k]? = some t → t.1 ∈ vs) ∧ 0 ≤ f.eval (asg vs ys)) 0 (⟨.refl _, Nat.zero_le _, fun j f h => by omega⟩) sub_auto ?_; rintro i H3 ⟨hl3, hi3, hk3⟩; have h03 := hl1.trans hl3; refine vc_sr ?_; refine vr 1 ?_; refine vco_k [0, 1, 2, 42, 43, 44] ?_; refine vc_seq ?_; refine vc_cond rfl (fun hb => ?_) (fun hb => ?_)
    ·
     have him : i < fs.length := by simpa using hb
     obtain ⟨f, hf⟩ : ∃ f, fs[i]? = some f := ⟨_, List.getElem?_eq_getElem him⟩; obtain ⟨B, cb, hfs, hxf⟩ := form_get hx hf; refine vc_skip ?_; refine vc_keep [0, 1, 2, 42, 43] rfl ?_; refine vc_seq ?_; refine vc_block ?_; refine vc_sr ?_; refine vr 2 ?_; refine vco_k [0, 1, 2, 8, 42, 43] ?_; refine vc_sr ?_; refine vr 2 ?_; refine vco_at_st tbOk rfl rfl rfl rfl (hr.le h03) rfl (by decide) (hxf) (by omega) (by omega) fun _ => ?_; refine vr 2 ?_; refine vco_call rfl rfl (rvalueof_ok (hfs.le termUp h03) (hvs.le intUp h03) (hys.le (ratUp N) h03) hN hvl h1 hasc (hfo.ok i f hf)) ?_; rintro _ H4 ⟨hl4, t4, b4, q4, rfl, hb4, hraw4, hq4⟩; have h04 := h03.trans hl4; refine vr 3 ?_; refine vco_alloc el36 rfl ?_; obtain ⟨ti, hti, htz⟩ := sz36; refine vco_bstore (.inl ⟨rfl, rfl⟩) rfl rfl rfl hti htz rfl rfl rfl ?_; refine vr 1 ?_; refine vco_k [0, 1, 2, 9, 10, 42, 43] ?_
     cases b4
     ·
      skip
      refine vc_sr ?_; refine vr 7 ?_; refine vco_k [0, 1, 2, 42, 43, 62] ?_; refine vc_cond_t rfl ?_; refine vc_sr ?_; refine vr 1 ?_; refine vco_k [6] ?_; refine vc_ret ⟨.inr rfl, _, .tmp rfl (.nil), ?_⟩; exact ⟨h04, false, rfl, ⟨(fun h => by cases h), fun h => by have h9 := hb4.2 (h.all i f hf).1; cases h9⟩⟩
     ·
      skip
      refine vc_sr ?_; refine vr 4 ?_; refine vco_call rfl rfl (rSign_ok (N := 1000000000000) hraw4 (by decide)) ?_; rintro _ H9 ⟨hl9, rfl⟩; refine vr 2 ?_; refine vco_k [0, 1, 2, 42, 43, 62] ?_; refine vc_cond rfl (fun hb => ?_) (fun hb => ?_)
      ·
       have h6 : ¬ 0 ≤ sgnQ q4 := by simpa using hb
       refine vc_sr ?_; refine vr 1 ?_; refine vco_k [6] ?_; refine vc_ret ⟨.inr rfl, _, .tmp rfl (.nil), ?_⟩; exact ⟨h04.trans hl9, false, rfl, ⟨(fun h => by cases h), fun h => absurd (sgn_ge.2 (by rw [hq4 rfl]; exact (h.all i f hf).2)) h6⟩⟩
      ·
       have h6 : 0 ≤ sgnQ q4 := by simpa using hb
       refine vc_skip ?_; refine vc_keep [0, 1, 2, 42, 43] rfl ?_; refine vc_region rfl ?_; refine vco_add rfl rfl ⟨by omega, by omega⟩ ?_; refine vr 1 ?_; refine vco_end ?_; exact ⟨i + 1, by omega, sub_auto, hl3.trans (hl4.trans hl9), by omega, fun j f9 h9 hf9 => by by_cases e : j < i; exact hk3 j f9 e hf9; (obtain rfl : j = i := by omega); rw [hf] at hf9; cases hf9; exact ⟨hb4.1 rfl, by rw [← hq4 rfl]; exact sgn_ge.1 h6⟩⟩
    ·
     have hb : fs.length ≤ i := by simpa using hb
     refine vc_exit ?_; refine vc_keep [] rfl ?_; refine vc_sr ?_; refine vr 1 ?_; refine vco_k [6] ?_; refine vc_ret ⟨.inr rfl, _, .tmp rfl (.nil), ?_⟩; exact ⟨h03, true, rfl, ⟨fun _ => ⟨hfo, h1, hasc, fun j f hf => hk3 j f (by have := (List.getElem?_eq_some_iff.1 hf).1; omega) hf⟩, fun _ => rfl⟩⟩
end Go.Eng
