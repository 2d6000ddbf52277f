/- Walks over packages amortcostref22 (vectors, LexicoError) and amortcostlaw23 (kept, solvable). -/
import Derived.Test.YtfjncmjbhfdnpaaGreatA10
import Derived.Test.YtfjncmjbhfdnpaaGreatLx3
import Derived.Test.YtfjncmjbhfdnpaaGreatVal2
set_option linter.unusedVariables false
namespace Go.Eng
open Go.Proofs Num Lp
theorem LsV.lsts {N : Nat} {H : Heap} {xs : List Value} {ls : List (List Rat)} (h : Els (VecP N H) 1 xs ls) : Lsts N H xs ls := by
  refine ⟨by rw [h.len, Nat.mul_one], fun i v l hv hl => ?_⟩
  obtain ⟨A, c, h1, h2⟩ := vec_get h hl
  rw [h1] at hv
  cases hv; exact h2
theorem Lsts.ls {N : Nat} {H : Heap} {xs : List Value} {ls : List (List Rat)} (h : Lsts N H xs ls) : Els (VecP N H) 1 xs ls := by
  refine ⟨by rw [h.1, Nat.mul_one], fun i l hl => ?_⟩
  have hi := (List.getElem?_eq_some_iff.1 hl).1
  have hx : xs[i]? = some (xs[i]'(by rw [h.1]; exact hi)) := List.getElem?_eq_getElem _
  have h2 := h.2 i _ l hx hl
  rw [seg_one hx]
  obtain ⟨A, c, _, e, _⟩ := id h2
  exact ⟨A, c, by rw [e], by rw [← e]; exact h2⟩
/-- A program and objectives that are small. -/
structure Kpt (H : Heap) (v ov : Value) (p : Prg) (os : List (List Rat)) : Prop where
  sml : PSml H v p 4 5
  obj : LsV 2 H ov os
  len : os.length ≤ 4
  vec : ∀ o, o ∈ os → o.length ≤ 5
theorem flat2_len {k : Nat} : ∀ {l : List (List Rat × Int × Rat)}, (∀ r, r ∈ l → r.1.length ≤ k) → (l.flatMap (·.1)).length ≤ l.length * k
  | [], _ => Nat.zero_le _
  | r :: l, h => by
    have h1 := h r (List.mem_cons_self ..)
    have h2 := flat2_len (l := l) fun r hr => h r (List.mem_cons_of_mem _ hr)
    simp only [List.flatMap_cons, List.length_append, List.length_cons, Nat.add_mul] at *; omega
theorem flat3_len {k : Nat} : ∀ {l : List (List Rat)}, (∀ r, r ∈ l → r.length ≤ k) → l.flatten.length ≤ l.length * k
  | [], _ => Nat.zero_le _
  | r :: l, h => by
    have h1 := h r (List.mem_cons_self ..)
    have h2 := flat3_len (l := l) fun r hr => h r (List.mem_cons_of_mem _ hr)
    simp only [List.flatten_cons, List.length_append, List.length_cons, Nat.add_mul] at *; omega
theorem log63 {x : Nat} (h : x < 2 ^ 63) : x.log2 ≤ 62 := by
  by_cases h0 : x = 0
  · subst h0; decide
  · have := (Nat.log2_lt h0).2 h; omega
theorem val2 {l : List Nat} (h : l.length ≤ 2) (h1 : ∀ x, x ∈ l → x < 4294967296) : val l < 2 ^ 63 := by
  match l, h with
  | [], _ => decide
  | [a], _ =>
    have := h1 a (by simp)
    simp [val]; omega
  | [a, b], _ =>
    have := h1 a (by simp)
    have := h1 b (by simp)
    simp only [val_cons]
    rw [show val [] = 0 from rfl, show B = 1000000000 from rfl]; omega
theorem frac_le {f : Bool} {n d k : Nat} (hk : 0 < k) (hn : n < k) (hd : d < k) (h1 : 1 < k) : (frac f n d).num.natAbs < k ∧ (frac f n d).den < k := by
  by_cases h0 : d = 0
  · subst h0; rw [frac_den0]; exact ⟨hk, h1⟩
  · have hp : 0 < d := by omega
    rw [frac_abs hp, frac_den hp]
    exact ⟨Nat.lt_of_le_of_lt (Nat.div_le_self _ _) hn, Nat.lt_of_le_of_lt (Nat.div_le_self _ _) hd⟩
theorem RawV.two {H : Heap} {v : Value} {q : Rat} (h : RawV H v q 2) : q.num.natAbs < 2 ^ 63 ∧ q.den < 2 ^ 63 := by
  obtain ⟨f, u, w, l1, l2, _, _, _, h3, h4, h5, h6, rfl⟩ := h
  exact frac_le (by decide) (val2 h5 h3) (val2 h6 h4) (by decide)
theorem wt2 {q : Rat} (h : q.num.natAbs < 2 ^ 63 ∧ q.den < 2 ^ 63) : Tab.wt q ≤ 126 := by
  have h1 := log63 h.1
  have h2 := log63 h.2
  unfold Tab.wt; omega
theorem SlV.two {H : Heap} {v : Value} {l : List Rat} (h : SlV (RatP 2) 3 H v l) : ∀ q, q ∈ l → q.num.natAbs < 2 ^ 63 ∧ q.den < 2 ^ 63 := fun q hq => by
  obtain ⟨A, cc, xs, _, _, _, h4⟩ := h
  obtain ⟨k, hk⟩ := List.getElem?_of_mem hq
  exact RawV.two (h4.at_ k q hk)
theorem ProgV.two {H : Heap} {v : Value} {p : Prg} (h : ProgV 2 H v p) : ∀ r, r ∈ p.rows → (∀ q, q ∈ r.1 → q.num.natAbs < 2 ^ 63 ∧ q.den < 2 ^ 63) ∧ (r.2.2.num.natAbs < 2 ^ 63 ∧ r.2.2.den < 2 ^ 63) := fun r hr => by
  obtain ⟨fv, rv, _, _, h3⟩ := h
  obtain ⟨A, c, xs, _, _, _, h4⟩ := h3
  obtain ⟨i, hi⟩ := List.getElem?_of_mem hr
  obtain ⟨c', f, u, w, _, k2, k3⟩ := h4.at_ i r hi
  exact ⟨k2.two, RawV.two k3⟩
theorem LsV.two {H : Heap} {v : Value} {ls : List (List Rat)} (h : LsV 2 H v ls) : ∀ o, o ∈ ls → ∀ q, q ∈ o → q.num.natAbs < 2 ^ 63 ∧ q.den < 2 ^ 63 := fun o ho => by
  obtain ⟨A, c, xs, _, _, _, h4⟩ := h
  obtain ⟨i, hi⟩ := List.getElem?_of_mem ho
  obtain ⟨A', c', _, k⟩ := vec_get h4 hi
  exact k.two
/-- Sizes for small arguments. -/
theorem lexSz_of {p : Prg} {os : List (List Rat)} (hm : p.rows.length ≤ 5) (hr : ∀ r, r ∈ p.rows → r.1.length ≤ 4) (ho : os.length ≤ 4) (hv : ∀ o, o ∈ os → o.length ≤ 4) (h1 : ∀ r, r ∈ p.rows → (∀ q, q ∈ r.1 → Tab.wt q ≤ 263) ∧ Tab.wt r.2.2 ≤ 263) (h2 : ∀ o, o ∈ os → ∀ q, q ∈ o → Tab.wt q ≤ 263) : LexSz p os 19934208 (2 * Tab.wts (p.rows.map (·.2.2))) := by
  have hc : Tab.wts (coefs p os) ≤ 37 * 263 := by
    refine Nat.le_trans (wts_len (k := 263) fun q hq => ?_) (Nat.mul_le_mul_right _ ?_)
    · rcases List.mem_cons.1 hq with rfl | hq
      · decide
      · rcases List.mem_append.1 hq with hq | hq
        · obtain ⟨r, hr, hq⟩ := List.mem_flatMap.1 hq
          exact (h1 r hr).1 q hq
        · obtain ⟨o, ho, hq⟩ := List.mem_flatten.1 hq
          exact h2 o ho q hq
    · have a1 := flat2_len hr
      have a2 := flat3_len hv
      have a3 : p.rows.length * 4 ≤ 5 * 4 := Nat.mul_le_mul_right _ hm
      have a4 : os.length * 4 ≤ 4 * 4 := Nat.mul_le_mul_right _ ho
      simp only [coefs, List.length_cons, List.length_append]; omega
  have hb : Tab.wts (p.rows.map (·.2.2)) ≤ 5 * 263 := by
    refine Nat.le_trans (wts_len (k := 263) fun q hq => ?_) (Nat.mul_le_mul_right _ (by rw [List.length_map]; exact hm))
    obtain ⟨r, hr, rfl⟩ := List.mem_map.1 hq
    exact (h1 r hr).2
  refine ⟨⟨_, bin_of p⟩, fun vs hvs => ⟨p.rows.length + vs.length, ?_, ?_⟩, ?_⟩
  · exact .inl (by have e : (extP p os vs).lp.m = p.rows.length + vs.length := ext_len hvs
                   omega)
  · have e : (extP p os vs).lp.m = p.rows.length + vs.length := ext_len hvs
    rw [e]
    unfold bitE
    have h9 : 2 ^ (p.rows.length + vs.length) ≤ 2 ^ 9 := Nat.pow_le_pow_right (by decide) (by omega)
    have h8 := Nat.mul_le_mul h9 (show 4 * Tab.wts (coefs p os) + (p.rows.length + vs.length) + 1 ≤ 4 * (37 * 263) + 9 + 1 by omega)
    have h7 : 2 ^ 9 * (4 * (37 * 263) + 9 + 1) = 19934208 := by decide
    omega
  · have h9 : (os.length + 1) * 19934208 ≤ 5 * 19934208 := Nat.mul_le_mul_right _ (by omega)
    omega
theorem Kpt.sz {H : Heap} {v ov : Value} {p : Prg} {os : List (List Rat)} (h : Kpt H v ov p os) (hf : LexFine p os) : LexSz p os 19934208 (2 * Tab.wts (p.rows.map (·.2.2))) := by
  have hn := h.sml.cols
  refine lexSz_of h.sml.rows (fun r hr => ?_) h.len (fun o ho => by have := hf.vec o ho; omega) (fun r hr => ?_) (fun o ho q hq => by have := wt2 (h.obj.two o ho q hq); omega)
  · obtain ⟨i, hi⟩ := List.getElem?_of_mem hr
    have := (hf.ok.row i r hi).1; omega
  · have h2 := h.sml.prog.two r hr
    exact ⟨fun q hq => by have := wt2 (h2.1 q hq); omega, by have := wt2 h2.2; omega⟩
theorem rVectors_ok {H : Heap} {v ov : Value} {p : Prg} {os : List (List Rat)} {N : Nat} (hp : ProgV N H v p) (ho : LsV N H ov os) (hol : os.length ≤ 9223372036854775807) :
  Fn Tryz.prog 96 #[v, ov] H (fun v' H' => H' = H ∧ ∃ b, v' = .bool b ∧ (b = true ↔ ∀ o, o ∈ os → o.length = p.free.length)) := by
 obtain ⟨fv, rv0, rfl, hfv, hrv0⟩ := id hp
 obtain ⟨Af, cf, xf, rfl, hrF, hxF⟩ := hfv.one
 obtain ⟨Ar, cr, xr, rfl, hcr, hrR, hxR⟩ := id hrv0
 obtain ⟨Ao, co, xo, rfl, hco, hro, hxo⟩ := id ho; refine fn_intro (args := [_, _]) Tryz.func96 rfl rfl Tryz.ntmps96 rfl rfl fun w0 => ?_; refine vc_keep [0, 1] rfl ?_; refine vc_sr ?_; refine vco_box rfl rfl ?_; refine vr 1 ?_; refine vco_k [1, 2] ?_; refine vc_seq ?_; refine vc_sr ?_; refine vr 3 ?_; refine vco_k [1, 2, 7, 8] ?_; refine vc_block ?_; refine vc_loop1 (fun (i : Nat) => os.length - i) (fun (i : Nat) => put (put (put (put (emp) 1 (.val (.slice Ao os.length co))) 2 (.box [.slice Af p.free.length cf, .slice Ar p.rows.length cr])) 7 (.val (.int .i64 (os.length : Int)))) 8 (.val (.int .i64 (i : Int)))) (fun (i : Nat) H' => H' = H ∧ i ≤ os.length ∧ ∀ (j : Nat) (o : List Rat), j < i → os[j]? = some o → o.length = p.free.length) 0 (⟨rfl, Nat.zero_le _, fun j o h => by omega⟩) sub_auto ?_; rintro i H1 ⟨e1, hi, hn⟩; rw [e1]; refine vc_sr ?_; refine vr 1 ?_; refine vco_k [1, 2, 7, 8, 9] ?_; refine vc_seq ?_; refine vc_cond rfl (fun hb => ?_) (fun hb => ?_)
 ·
  have him : i < os.length := by simpa using hb
  obtain ⟨o, hoi⟩ : ∃ o, os[i]? = some o := ⟨_, List.getElem?_eq_getElem him⟩; obtain ⟨B, cb, hbx, hbs⟩ := vec_get hxo hoi; refine vc_skip ?_; refine vc_keep [1, 2, 7, 8] rfl ?_; refine vc_seq ?_; refine vc_block ?_; refine vc_sr ?_; refine vr 2 ?_; refine vco_k [1, 2, 5, 7, 8] ?_; refine vc_sd .drawB [0, 1, 2, 3, 4, 5, 6, 7, 8] follows (by kernel_rfl) ?_; refine vr 2 ?_; refine vco_at tbOk rfl rfl rfl rfl rfl (hro) (by rw [Int.toNat_natCast]; exact hbx) (by omega) (by omega) fun _ => ?_; refine vr 5 ?_; refine vco_k [1, 2, 7, 8, 19] ?_; refine vc_cond rfl (fun hb => ?_) (fun hb => ?_)
  ·
   have h2 : ¬ o.length = p.free.length := by simpa [Int.natCast_inj] using hb
   refine vc_sr ?_; refine vr 1 ?_; refine vco_k [4] ?_; refine vc_ret ⟨.inr rfl, _, .tmp rfl (.nil), ?_⟩; exact ⟨rfl, false, rfl, ⟨(fun h => by cases h), fun h => absurd (h o (List.mem_of_getElem? hoi)) h2⟩⟩
  ·
   have h2 : o.length = p.free.length := by simpa [Int.natCast_inj] using hb
   refine vc_skip ?_; refine vc_keep [1, 2, 7, 8] rfl ?_; refine vc_region rfl ?_; refine vco_add rfl rfl ⟨by omega, by omega⟩ ?_; refine vr 1 ?_; refine vco_end ?_; exact ⟨i + 1, by omega, sub_auto, rfl, by omega, fun j o9 hj ho9 => by by_cases h9 : j < i; exact hn j o9 h9 ho9; (obtain rfl : j = i := by omega); rw [hoi] at ho9; cases ho9; exact h2⟩
 ·
  have hb : os.length ≤ i := by simpa using hb
  refine vc_exit ?_; refine vc_keep [] rfl ?_; refine vc_sr ?_; refine vr 1 ?_; refine vco_k [4] ?_; refine vc_ret ⟨.inr rfl, _, .tmp rfl (.nil), ?_⟩; exact ⟨rfl, true, rfl, ⟨fun _ o h => by obtain ⟨j, hj⟩ := List.getElem?_of_mem h; exact hn j o (by have := (List.getElem?_eq_some_iff.1 hj).1; omega) hj, fun _ => rfl⟩⟩
theorem rLexE_ok {H : Heap} {v ov : Value} {p : Prg} {os : List (List Rat)} {N : Nat} (hp : ProgV N H v p) (ho : LsV N H ov os) (hol : os.length ≤ 9223372036854775807) :
  Fn Tryz.prog 31 #[v, ov] H (fun v' H' => H' = H ∧ ∃ e, v' = .int .i64 e ∧ LexE p os e) := by
 obtain ⟨fv, rv0, rfl, hfv, hrv0⟩ := id hp
 obtain ⟨Af, cf, xf, rfl, hrF, hxF⟩ := hfv.one
 obtain ⟨Ar, cr, xr, rfl, hcr, hrR, hxR⟩ := id hrv0
 obtain ⟨Ao, co, xo, rfl, hco, hro, hxo⟩ := id ho; refine fn_intro (args := [_, _]) Tryz.func31 rfl rfl Tryz.ntmps31 rfl rfl fun w0 => ?_; refine vc_keep [0, 1] rfl ?_; refine vc_sr ?_; refine vco_box rfl rfl ?_; refine vr 1 ?_; refine vco_k [1, 2] ?_; refine vc_seq ?_; refine vc_sr ?_; refine vr 1 ?_; refine vco_call rfl rfl (rValid_ok hp) ?_; rintro _ H1 ⟨e1, b1, rfl, hb1⟩; rw [e1]; refine vr 1 ?_; refine vco_k [1, 2, 7] ?_; refine vc_cond rfl (fun hb => ?_) (fun hb => ?_)
 ·
  have hbf : b1 = false := by simpa using hb
  subst hbf; refine vc_sr ?_; refine vr 1 ?_; refine vco_k [4] ?_; refine vc_ret ⟨.inr rfl, _, .tmp rfl (.nil), ?_⟩; exact ⟨rfl, 1, rfl, .inl ⟨fun h => (by have h9 := hb1.2 h; cases h9), rfl⟩⟩
 ·
  have hbt : b1 = true := by simpa using hb
  have hok := hb1.1 hbt; have hm8 := hok.rows; refine vc_skip ?_; refine vc_keep [1, 2] rfl ?_; refine vc_seq ?_; refine vc_sr ?_; refine vr 2 ?_; refine vco_call rfl rfl (rVectors_ok hp ho hol) ?_; rintro _ H2 ⟨e2, b2, rfl, hb2⟩; rw [e2]; refine vr 1 ?_; refine vco_k [1, 2, 11] ?_; refine vc_cond rfl (fun hb => ?_) (fun hb => ?_)
  ·
   have hbf : b2 = false := by simpa using hb
   subst hbf; refine vc_sr ?_; refine vr 1 ?_; refine vco_k [4] ?_; refine vc_ret ⟨.inr rfl, _, .tmp rfl (.nil), ?_⟩; exact ⟨rfl, 21, rfl, .inr (.inl ⟨hok, fun h => (by have h9 := hb2.2 h; cases h9), rfl⟩)⟩
  ·
   have hbt2 : b2 = true := by simpa using hb
   have hvec := hb2.1 hbt2; refine vc_skip ?_; refine vc_keep [1, 2] rfl ?_; refine vc_seq ?_
   by_cases h4 : 40 < os.length
   ·
    skip
    refine vc_sr ?_; refine vr 2 ?_; refine vco_cmp true rfl rfl (cgt_t (by omega)) ?_; refine vr 9 ?_; refine vco_k [23] ?_; refine vc_cond_t rfl ?_; refine vc_sr ?_; refine vr 1 ?_; refine vco_k [4] ?_; refine vc_ret ⟨.inr rfl, _, .tmp rfl (.nil), ?_⟩; exact ⟨rfl, 9, rfl, .inr (.inr (.inl ⟨hok, hvec, .inl h4, rfl⟩))⟩
   ·
    skip
    refine vc_sr ?_; refine vr 2 ?_; refine vco_cmp false rfl rfl (cgt_f (by omega)) ?_; refine vr 6 ?_; refine vco_add rfl rfl ⟨by omega, by omega⟩ ?_; refine vr 2 ?_; refine vco_k [23] ?_; refine vc_cond rfl (fun hb => ?_) (fun hb => ?_)
    ·
     have h8i : (800 : Int) < (p.rows.length : Int) + (os.length : Int) := by simpa using hb
     refine vc_sr ?_; refine vr 1 ?_; refine vco_k [4] ?_; refine vc_ret ⟨.inr rfl, _, .tmp rfl (.nil), ?_⟩; exact ⟨rfl, 9, rfl, .inr (.inr (.inl ⟨hok, hvec, .inr (by omega), rfl⟩))⟩
    ·
     have h8i : (p.rows.length : Int) + (os.length : Int) ≤ 800 := by simpa using hb
     refine vc_skip ?_; refine vc_keep [] rfl ?_; refine vc_sr ?_; refine vr 1 ?_; refine vco_k [4] ?_; refine vc_ret ⟨.inr rfl, _, .tmp rfl (.nil), ?_⟩; exact ⟨rfl, 0, rfl, .inr (.inr (.inr ⟨⟨hok, hvec, by omega, by omega⟩, rfl⟩))⟩
theorem kept3_ok {H : Heap} {v ov : Value} {p : Prg} {os : List (List Rat)} {N : Nat} (hp : ProgV N H v p) (ho : LsV N H ov os) :
  Fn Tryz.prog 23 #[v, ov] H (fun v' H' => H' = H ∧ ∃ b, v' = .bool b ∧ (b = true → Kpt H v ov p os)) := by
 obtain ⟨fv, rv0, rfl, hfv, hrv0⟩ := id hp
 obtain ⟨Af, cf, xf, rfl, hrF, hxF⟩ := hfv.one
 obtain ⟨Ar, cr, xr, rfl, hcr, hrR, hxR⟩ := id hrv0
 obtain ⟨Ao, co, xo, rfl, hco, hro, hxo⟩ := id ho; refine fn_intro (args := [_, _]) Tryz.func23 rfl rfl Tryz.ntmps23 rfl rfl fun w0 => ?_; refine vc_keep [0, 1] rfl ?_; refine vc_sr ?_; refine vco_box rfl rfl ?_; refine vr 1 ?_; refine vco_k [1, 2] ?_; refine vc_sr ?_; refine vr 1 ?_; refine vco_call rfl rfl (kProgram_ok (n := 4) (m := 5) hp (by omega) (by omega)) ?_; rintro _ H2 ⟨e2, b2, rfl, hb2⟩; rw [e2]
 cases b2
 ·
  skip
  refine vr 5 ?_; refine vco_k [4] ?_; refine vc_ret ⟨.inr rfl, _, .tmp rfl (.nil), ?_⟩; exact ⟨rfl, false, rfl, fun h => by cases h⟩
 ·
  skip
  refine vr 2 ?_; refine vco_call rfl rfl (kLists_ok (m := 4) (n := 5) hro rfl (LsV.lsts hxo) (by omega) (by omega)) ?_; rintro _ H3 ⟨e3, b3, rfl, hb3⟩; rw [e3]; refine vr 2 ?_; refine vco_k [4] ?_; refine vc_ret ⟨.inr rfl, _, .tmp rfl (.nil), ?_⟩; exact ⟨rfl, b3, rfl, fun h => ⟨hb2 rfl, ⟨Ao, co, xo, rfl, hco, hro, (hb3 h).1.ls⟩, (hb3 h).2.2, (hb3 h).2.1⟩⟩
theorem solvable3_ok {H : Heap} {v ov : Value} {p : Prg} {os : List (List Rat)} {N : Nat} (hp : ProgV N H v p) (ho : LsV N H ov os) (hol : os.length ≤ 9223372036854775807) :
  Fn Tryz.prog 16 #[v, ov] H (fun v' H' => H' = H ∧ ∃ b, v' = .bool b ∧ (b = true → Kpt H v ov p os ∧ LexFine p os)) := by
 obtain ⟨fv, rv0, rfl, hfv, hrv0⟩ := id hp
 obtain ⟨Af, cf, xf, rfl, hrF, hxF⟩ := hfv.one
 obtain ⟨Ar, cr, xr, rfl, hcr, hrR, hxR⟩ := id hrv0
 obtain ⟨Ao, co, xo, rfl, hco, hro, hxo⟩ := id ho; refine fn_intro (args := [_, _]) Tryz.func16 rfl rfl Tryz.ntmps16 rfl rfl fun w0 => ?_; refine vc_keep [0, 1] rfl ?_; refine vc_sr ?_; refine vco_box rfl rfl ?_; refine vr 1 ?_; refine vco_k [1, 2] ?_; refine vc_sr ?_; refine vr 2 ?_; refine vco_call rfl rfl (kept3_ok hp ho) ?_; rintro _ H2 ⟨e2, b2, rfl, hb2⟩; rw [e2]
 cases b2
 ·
  skip
  refine vr 7 ?_; refine vco_k [4] ?_; refine vc_ret ⟨.inr rfl, _, .tmp rfl (.nil), ?_⟩; exact ⟨rfl, false, rfl, fun h => by cases h⟩
 ·
  skip
  refine vr 3 ?_; refine vco_call rfl rfl (rLexE_ok hp ho hol) ?_; rintro _ H3 ⟨e3, er, rfl, hE⟩; rw [e3]; refine vr 3 ?_; refine vco_k [4] ?_; refine vc_ret ⟨.inr rfl, _, .tmp rfl (.nil), ?_⟩; exact ⟨rfl, _, rfl, fun h => ⟨hb2 rfl, LexE.fine (show LexE p os 0 from (show er = 0 by simpa using h) ▸ hE)⟩⟩
end Go.Eng
