/- Walks over packages amortcostref22 (vectors, LexicoError) and amortcostlaw23 (kept, solvable). -/
import Derived.Test.YtbdlohajhbnadaaGreatA10
import Derived.Test.YtbdlohajhbnadaaGreatLx3
import Derived.Test.YtbdlohajhbnadaaGreatVal2
set_option linter.unusedVariables false
namespace Go.Eng
open Go.Proofs Num Lp
theorem LsV.lsts {N : Nat} {H : Heap} {xs : List Value} {ls : List (List Rat)} (h : Els (VecP N H) 1 xs ls) : Lsts N H xs ls := by
  refine ⟨by rw [h.len, Nat.mul_one], fun i v l hv hl => ?_⟩
  obtain ⟨A, c, h1, h2⟩ := vec_get h hl
  rw [h1] at hv
  cases hv; exact h2
theorem Lsts.ls {N : Nat} {H : Heap} {xs : List Value} {ls : List (List Rat)} (h : Lsts N H xs ls) : Els (VecP N H) 1 xs ls := by
  refine ⟨by rw [h.1, Nat.mul_one], fun i l hl => ?_⟩
  have hi := (List.getElem?_eq_some_iff.1 hl).1
  have hx : xs[i]? = some (xs[i]'(by rw [h.1]; exact hi)) := List.getElem?_eq_getElem _
  have h2 := h.2 i _ l hx hl
  rw [seg_one hx]
  obtain ⟨A, c, _, e, _⟩ := id h2
  exact ⟨A, c, by rw [e], by rw [← e]; exact h2⟩
/-- A program and objectives that are small. -/
structure Kpt (H : Heap) (v ov : Value) (p : Prg) (os : List (List Rat)) : Prop where
  sml : PSml H v p 4 5
  obj : LsV 2 H ov os
  len : os.length ≤ 4
  vec : ∀ o, o ∈ os → o.length ≤ 5
theorem rVectors_ok {H : Heap} {v ov : Value} {p : Prg} {os : List (List Rat)} {N : Nat} (hp : ProgV N H v p) (ho : LsV N H ov os) (hol : os.length ≤ 9223372036854775807) :
  Fn Tryz.prog 45 #[v, ov] H (fun v' H' => H' = H ∧ ∃ b, v' = .bool b ∧ (b = true ↔ ∀ o, o ∈ os → o.length = p.free.length)) := by
 obtain ⟨fv, rv0, rfl, hfv, hrv0⟩ := id hp
 obtain ⟨Af, cf, xf, rfl, hrF, hxF⟩ := hfv.one
 obtain ⟨Ar, cr, xr, rfl, hcr, hrR, hxR⟩ := id hrv0
 obtain ⟨Ao, co, xo, rfl, hco, hro, hxo⟩ := id ho; refine fn_intro (args := [_, _]) Tryz.func45 rfl rfl Tryz.ntmps45 rfl rfl fun w0 => ?_; refine vc_keep [0, 1] rfl ?_; refine vc_sr ?_; refine vco_box rfl rfl ?_; refine vr 1 ?_; refine vco_k [1, 2] ?_; refine vc_seq ?_; refine vc_sr ?_; refine vr 3 ?_; refine vco_k [1, 2, 7, 8] ?_; refine vc_block ?_; refine vc_loop1 (fun (i : Nat) => os.length - i) (fun (i : Nat) => put (put (put (put (emp) 1 (.val (.slice Ao os.length co))) 2 (.box [.slice Af p.free.length cf, .slice Ar p.rows.length cr])) 7 (.val (.int .i64 (os.length : Int)))) 8 (.val (.int .i64 (i : Int)))) (fun (i : Nat) H' => H' = H ∧ i ≤ os.length ∧ ∀ (j : Nat) (o : List Rat), j < i → os[j]? = some o → o.length = p.free.length) 0 (⟨rfl, Nat.zero_le _, fun j o h => by omega⟩) sub_auto ?_; rintro i H1 ⟨e1, hi, hn⟩; rw [e1]; refine vc_sr ?_; refine vr 1 ?_; refine vco_k [1, 2, 7, 8, 9] ?_; refine vc_seq ?_; refine vc_cond rfl (fun hb => ?_) (fun hb => ?_)
 ·
  have him : i < os.length := by simpa using hb
  obtain ⟨o, hoi⟩ : ∃ o, os[i]? = some o := ⟨_, List.getElem?_eq_getElem him⟩; obtain ⟨B, cb, hbx, hbs⟩ := vec_get hxo hoi; refine vc_skip ?_; refine vc_keep [1, 2, 7, 8] rfl ?_; refine vc_seq ?_; refine vc_block ?_; refine vc_sr ?_; refine vr 2 ?_; refine vco_k [1, 2, 5, 7, 8] ?_; refine vc_sd .drawB [0, 1, 2, 3, 4, 5, 6, 7, 8] follows (by kernel_rfl) ?_; refine vr 2 ?_; refine vco_at tbOk rfl rfl rfl rfl rfl (hro) (by rw [Int.toNat_natCast]; exact hbx) (by omega) (by omega) fun _ => ?_; refine vr 5 ?_; refine vco_k [1, 2, 7, 8, 19] ?_; refine vc_cond rfl (fun hb => ?_) (fun hb => ?_)
  ·
   have h2 : ¬ o.length = p.free.length := by simpa [Int.natCast_inj] using hb
   refine vc_sr ?_; refine vr 1 ?_; refine vco_k [4] ?_; refine vc_ret ⟨.inr rfl, _, .tmp rfl (.nil), ?_⟩; exact ⟨rfl, false, rfl, ⟨(fun h => by cases h), fun h => absurd (h o (List.mem_of_getElem? hoi)) h2⟩⟩
  ·
   have h2 : o.length = p.free.length := by simpa [Int.natCast_inj] using hb
   refine vc_skip ?_; refine vc_keep [1, 2, 7, 8] rfl ?_; refine vc_region rfl ?_; refine vco_add rfl rfl ⟨by omega, by omega⟩ ?_; refine vr 1 ?_; refine vco_end ?_; exact ⟨i + 1, by omega, sub_auto, rfl, by omega, fun j o9 hj ho9 => by by_cases h9 : j < i; exact hn j o9 h9 ho9; (obtain rfl : j = i := by omega); rw [hoi] at ho9; cases ho9; exact h2⟩
 ·
  have hb : os.length ≤ i := by simpa using hb
  refine vc_exit ?_; refine vc_keep [] rfl ?_; refine vc_sr ?_; refine vr 1 ?_; refine vco_k [4] ?_; refine vc_ret ⟨.inr rfl, _, .tmp rfl (.nil), ?_⟩; exact ⟨rfl, true, rfl, ⟨fun _ o h => by obtain ⟨j, hj⟩ := List.getElem?_of_mem h; exact hn j o (by have := (List.getElem?_eq_some_iff.1 hj).1; omega) hj, fun _ => rfl⟩⟩
theorem kept3_ok {H : Heap} {v ov : Value} {p : Prg} {os : List (List Rat)} {N : Nat} (hp : ProgV N H v p) (ho : LsV N H ov os) :
  Fn Tryz.prog 14 #[v, ov] H (fun v' H' => H' = H ∧ ∃ b, v' = .bool b ∧ (b = true → Kpt H v ov p os)) := by
 obtain ⟨fv, rv0, rfl, hfv, hrv0⟩ := id hp
 obtain ⟨Af, cf, xf, rfl, hrF, hxF⟩ := hfv.one
 obtain ⟨Ar, cr, xr, rfl, hcr, hrR, hxR⟩ := id hrv0
 obtain ⟨Ao, co, xo, rfl, hco, hro, hxo⟩ := id ho; refine fn_intro (args := [_, _]) Tryz.func14 rfl rfl Tryz.ntmps14 rfl rfl fun w0 => ?_; refine vc_keep [0, 1] rfl ?_; refine vc_sr ?_; refine vco_box rfl rfl ?_; refine vr 1 ?_; refine vco_k [1, 2] ?_; refine vc_sr ?_; refine vr 1 ?_; refine vco_call rfl rfl (kProgram_ok (n := 4) (m := 5) hp (by omega) (by omega)) ?_; rintro _ H2 ⟨e2, b2, rfl, hb2⟩; rw [e2]
 cases b2
 ·
  skip
  refine vr 5 ?_; refine vco_k [4] ?_; refine vc_ret ⟨.inr rfl, _, .tmp rfl (.nil), ?_⟩; exact ⟨rfl, false, rfl, fun h => by cases h⟩
 ·
  skip
  refine vr 2 ?_; refine vco_call rfl rfl (kLists_ok (m := 4) (n := 5) hro rfl (LsV.lsts hxo) (by omega) (by omega)) ?_; rintro _ H3 ⟨e3, b3, rfl, hb3⟩; rw [e3]; refine vr 2 ?_; refine vco_k [4] ?_; refine vc_ret ⟨.inr rfl, _, .tmp rfl (.nil), ?_⟩; exact ⟨rfl, b3, rfl, fun h => ⟨hb2 rfl, ⟨Ao, co, xo, rfl, hco, hro, (hb3 h).1.ls⟩, (hb3 h).2.2, (hb3 h).2.1⟩⟩
end Go.Eng
