/- Part 11 of the proof: Smp8, Law1, Sane1, Eng14, Sane2, Keep1, Keep2, Law2, Law3, Grw, Br1. -/
import Derived.Test.YtfkeccepnppjnaaGreatA10
import Derived.Deep.Slices
import Derived.Deep.Strs
import Derived.Carry
import Derived.Below
set_option linter.unusedVariables false
/- Walks over package simplex, simplex.go, part 8: Check. -/
namespace Go.Eng
open Go.Proofs Num Lp
theorem Chk.ok {p : Prg} {c : List Rat} {S : Soln} (h : Chk p c S) : p.Ok ∧ c.length = p.free.length := by
  rcases h with ⟨_, _, h, _⟩ | ⟨_, _, _, _, h1, h⟩ | ⟨_, _, _, h⟩
  · exact ⟨h.feas.ok, h.clen⟩
  · exact ⟨h.ok, h1⟩
  · exact ⟨h.feas.ok, h.clen⟩
theorem Chk.at1 {p : Prg} {c : List Rat} {S : Soln} (h : Chk p c S) (e : S.status = 1) : S.ray = [] ∧ ChkOpt p c S.x S.dual ∧ S.value = dotN p.free.length (fn c) (fn S.x) := by
  rcases h with ⟨_, h⟩ | ⟨h1, _⟩ | ⟨h1, _⟩
  · exact h
  · omega
  · omega
theorem Chk.at2 {p : Prg} {c : List Rat} {S : Soln} (h : Chk p c S) (e : S.status = 2) : S.value = 0 ∧ S.x = [] ∧ S.ray = [] ∧ c.length = p.free.length ∧ ChkInf p S.dual := by
  rcases h with ⟨h1, _⟩ | ⟨_, h⟩ | ⟨h1, _⟩
  · omega
  · exact h
  · omega
theorem Chk.at3 {p : Prg} {c : List Rat} {S : Soln} (h : Chk p c S) (e : S.status = 3) : S.value = 0 ∧ S.dual = [] ∧ ChkUnb p c S.x S.ray := by
  rcases h with ⟨h1, _⟩ | ⟨h1, _⟩ | ⟨_, h⟩
  · omega
  · omega
  · exact h
theorem Check_ok {H : Heap} {v cv xv dv rv u w : Value} {f : Bool} {p : Prg} {c : List Rat} {S : Soln} {N : Nat} (hp : ProgV N H v p) (hc : SlV (RatP N) 3 H cv c) (hq : RawV H (.agg #[.bool f, u, w]) S.value N) (hx : SlV (RatP N) 3 H xv S.x) (hd : SlV (RatP N) 3 H dv S.dual) (hr : SlV (RatP N) 3 H rv S.ray) (hxN : (S.x.length : Int) ≤ 1099511627776) (hN : N ≤ 400000000) :
  Fn Tryz.prog 46 #[v, cv, .agg #[.int .i64 S.status, .bool f, u, w, xv, dv, rv]] H (fun v H' => Heap.le H H' ∧ ∃ b, v = .bool b ∧ (b = true ↔ Chk p c S)) := by
 obtain ⟨fv, rv0, rfl, hfv, hrv0⟩ := id hp
 obtain ⟨Af, cf, xf, rfl, hrF, hxF⟩ := hfv.one
 obtain ⟨Ar, cr, xr, rfl, hrR, hxR⟩ := hrv0.row
 obtain ⟨Ac, cc, xc, rfl, hrC, hxC⟩ := hc.rat
 obtain ⟨Ax, cx, xx, rfl, hrX, hxX⟩ := hx.rat
 obtain ⟨Ad, cd, xd, rfl, hrD, hxD⟩ := hd.rat
 obtain ⟨Ay, cy, xy, rfl, hrY, hxY⟩ := hr.rat
 obtain ⟨f', u', w', l1, l2, k1, k2, k3, _⟩ := id hq
 obtain ⟨A1, c1, rfl, _⟩ := k2
 obtain ⟨A2, c2, rfl, _⟩ := k3
 obtain ⟨rfl, rfl, rfl⟩ : f = f' ∧ u = _ ∧ w = _ := by simpa using k1
 refine fn_intro (args := [_, _, _]) Tryz.func46 rfl rfl Tryz.ntmps46 rfl rfl fun w0 => ?_
 refine vc_keep [0, 1, 2] rfl ?_
 refine vc_sr ?_
 refine vco_box rfl rfl ?_
 refine vco_box rfl rfl ?_
 refine vco_run tbOk 1 rfl ?_
 refine vco_k [1, 3, 5] ?_
 refine vc_seq ?_
 by_cases hok : p.Ok
 ·
  skip
  by_cases hcl : c.length = p.free.length
  ·
   skip
   refine vc_sr ?_
   refine vco_run tbOk 1 rfl ?_
   refine vco_call rfl rfl (Valid_yes hp hok) ?_
   rintro v1 H1 ⟨e1, rfl⟩
   rw [e1]
   refine vco_run tbOk 7 rfl ?_
   refine vco_cmp false rfl rfl (cne_f (by omega)) ?_
   refine vco_run tbOk 1 rfl ?_
   refine vco_k [1, 3, 5, 17] ?_
   refine vc_cond_f rfl ?_
   refine vc_skip ?_
   refine vc_keep [1, 3, 5] rfl ?_
   refine vc_seq ?_
   refine vc_sr ?_
   refine vco_run tbOk 2 rfl ?_
   refine vco_k [1, 3, 5, 19] ?_
   refine vc_block ?_
   refine vc_sr ?_
   refine vco_run tbOk 2 rfl ?_
   refine vco_k [1, 3, 5, 19, 20] ?_
   refine vc_cond rfl (fun hb => ?_) (fun hb => ?_)
   ·
    have hst : S.status = 1 := by simpa using hb
    have hn4 := hok.cols
    refine vc_seq ?_
    by_cases hray : S.ray.length = 0
    ·
     skip
     by_cases hopt : ChkOpt p c S.x S.dual
     ·
      skip
      refine vc_sr ?_
      refine vco_run tbOk 3 rfl ?_
      refine vco_cmp false rfl rfl (cgt_f (by omega)) ?_
      refine vco_run tbOk 7 rfl ?_
      refine vco_call rfl rfl (Fn.yes (CheckOptimal_ok hp hc hx hd hxN hN) hopt) ?_
      rintro v2 H2 ⟨hl2, rfl⟩
      have hxl := hopt.feas.len
      refine vco_run tbOk 2 rfl ?_
      refine vco_k [1, 5, 35] ?_
      refine vc_cond_f rfl ?_
      refine vc_skip ?_
      refine vc_keep [1, 5] rfl ?_
      refine vc_sd .drawB [0, 2, 3, 6, 7, 1, 4, 5, 8, 9, 10, 11, 12] follows (by kernel_rfl) ?_
      refine vco_run tbOk 5 rfl ?_
      refine vco_callM rfl rfl (svector_ok (hc.le (ratUp N) hl2) (by omega) (by omega)) (fun _ _ h => by first | exact h.le | exact h.1) ?_
      rintro v8 H8 ⟨hl8, hs8⟩
      refine vco_callM rfl rfl (svector_ok (hx.le (ratUp N) (hl2.trans hl8)) (by omega) (by omega)) (fun _ _ h => by first | exact h.le | exact h.1) ?_
      rintro v9 H9 ⟨hl9, hs9⟩
      refine vco_callM rfl rfl (sdot_ok (s := N + 2) (hs8.le numUp hl9) hs9 (by omega) hc.rsize hx.rsize (by rw [hcl]; have h9 : ((p.free.length : Int) + 2) * (2 * ((N + 2 : Nat) : Int) + 2) ≤ 402 * (2 * ((N + 2 : Nat) : Int) + 2) := Int.mul_le_mul_of_nonneg_right (by omega) (by omega); omega)) (fun _ _ h => by first | exact h.le | exact h.1) ?_
      rintro _ H10 ⟨hl10, vs10, rfl, hn10⟩
      obtain ⟨n10, d10, b10, rfl⟩ := hn10.cells
      have hsz10 := dot_sz (M := N + 2) c.length (fn c) (fn S.x) (fun j hj => hc.rsize _ (fn_mem hj)) (fun j hj => hx.rsize _ (fn_mem (by omega)))
      have hsz11 : c.length * (2 * (N + 2) + 2) ≤ 400 * (2 * (N + 2) + 2) := Nat.mul_le_mul_right _ (by omega)
      refine vco_callM rfl rfl (sload_ok (hq.le (((hl2.trans hl8).trans hl9).trans hl10)) (by omega)) (fun _ _ h => by first | exact h.le | exact h.1) ?_
      rintro _ H11 ⟨hl11, vs11, rfl, hn11⟩
      obtain ⟨n11, d11, b11, rfl⟩ := hn11.cells
      have hszq := hq.size
      refine vco_callM rfl rfl (ssub_ok (N := 400 * (2 * (N + 2) + 2) + 1) (hn10.le hl11) hn11 (by omega) (by omega) (by omega)) (fun _ _ h => by first | exact h.le | exact h.1) ?_
      rintro _ H12 ⟨hl12, vs12, rfl, hn12⟩
      obtain ⟨n12, d12, b12, rfl⟩ := hn12.cells
      have hszs := szQ_sub (dotN c.length (fn c) (fn S.x)) S.value
      refine vco_callM rfl rfl (ssign_ok hn12 (by omega)) (fun _ _ h => by first | exact h.le | exact h.1) ?_
      rintro v13 H13 ⟨hl13, rfl⟩
      refine vco_run tbOk 2 rfl ?_
      refine vco_k [6] ?_
      refine vc_ret ⟨.inr rfl, _, .tmp rfl (.nil), ?_⟩
      exact ⟨((((((hl2.trans hl8).trans hl9).trans hl10).trans hl11).trans hl12).trans hl13), _, rfl, by simp only [beq_iff_eq, sgn_eq]; rw [hcl]; exact ⟨fun h => .inl ⟨hst, List.eq_nil_of_length_eq_zero hray, hopt, by grind⟩, fun h => by have h9 := (Chk.at1 h hst).2.2; grind⟩⟩
     ·
      skip
      refine vc_sr ?_
      refine vco_run tbOk 3 rfl ?_
      refine vco_cmp false rfl rfl (cgt_f (by omega)) ?_
      refine vco_run tbOk 7 rfl ?_
      refine vco_call rfl rfl (Fn.no (CheckOptimal_ok hp hc hx hd hxN hN) hopt) ?_
      rintro v2 H2 ⟨hl2, rfl⟩
      refine vco_run tbOk 2 rfl ?_
      refine vco_k [1, 5, 35] ?_
      refine vc_cond_t rfl ?_
      refine vc_sr ?_
      refine vco_run tbOk 1 rfl ?_
      refine vco_k [6] ?_
      refine vc_ret ⟨.inr rfl, _, .tmp rfl (.nil), ?_⟩
      exact ⟨hl2, false, rfl, ⟨(fun h => by cases h), (fun h => absurd (Chk.at1 h hst).2.1 hopt)⟩⟩
    ·
     skip
     refine vc_sr ?_
     refine vco_run tbOk 3 rfl ?_
     refine vco_cmp true rfl rfl (cgt_t (by omega)) ?_
     refine vco_run tbOk 10 rfl ?_
     refine vco_k [1, 5, 35] ?_
     refine vc_cond_t rfl ?_
     refine vc_sr ?_
     refine vco_run tbOk 1 rfl ?_
     refine vco_k [6] ?_
     refine vc_ret ⟨.inr rfl, _, .tmp rfl (.nil), ?_⟩
     exact ⟨.refl _, false, rfl, ⟨(fun h => by cases h), (fun h => by have h9 := (Chk.at1 h hst).1; rw [h9] at hray; simp at hray)⟩⟩
   ·
    have hst1 : ¬ S.status = 1 := by simpa using hb
    refine vc_sr ?_
    refine vco_run tbOk 2 rfl ?_
    refine vco_k [1, 3, 5, 19, 48] ?_
    refine vc_cond rfl (fun hb => ?_) (fun hb => ?_)
    ·
     have hst : S.status = 2 := by simpa using hb
     by_cases hv0 : S.value = 0
     ·
      skip
      by_cases hx0 : S.x.length = 0
      ·
       skip
       by_cases hray : S.ray.length = 0
       ·
        skip
        refine vc_sr ?_
        refine vco_run tbOk 2 rfl ?_
        refine vco_call rfl rfl (Sign_ok hq (by omega)) ?_
        rintro v2 H2 ⟨hl2, rfl⟩
        refine vco_cmp true rfl rfl (ceq_t (sgn_eq.2 hv0)) ?_
        refine vco_run tbOk 4 rfl ?_
        refine vco_cmp true rfl rfl (ceq_t (by omega)) ?_
        refine vco_run tbOk 5 rfl ?_
        refine vco_cmp true rfl rfl (ceq_t (by omega)) ?_
        refine vco_run tbOk 5 rfl ?_
        refine vco_call rfl rfl (CheckInfeasible_ok (hp.le hl2) (hd.le (ratUp N) hl2) (by omega)) ?_
        rintro v3 H3 ⟨hl3, b3, rfl, hb3⟩
        refine vco_run tbOk 2 rfl ?_
        refine vco_k [6] ?_
        refine vc_ret ⟨.inr rfl, _, .tmp rfl (.nil), ?_⟩
        exact ⟨hl2.trans hl3, b3, rfl, ⟨(fun h => .inr (.inl ⟨hst, hv0, List.eq_nil_of_length_eq_zero hx0, List.eq_nil_of_length_eq_zero hray, hcl, hb3.1 h⟩)), (fun h => hb3.2 (Chk.at2 h hst).2.2.2.2)⟩⟩
       ·
        skip
        refine vc_sr ?_
        refine vco_run tbOk 2 rfl ?_
        refine vco_call rfl rfl (Sign_ok hq (by omega)) ?_
        rintro v2 H2 ⟨hl2, rfl⟩
        refine vco_cmp true rfl rfl (ceq_t (sgn_eq.2 hv0)) ?_
        refine vco_run tbOk 4 rfl ?_
        refine vco_cmp true rfl rfl (ceq_t (by omega)) ?_
        refine vco_run tbOk 5 rfl ?_
        refine vco_cmp false rfl rfl (ceq_f (by omega)) ?_
        refine vco_run tbOk 8 rfl ?_
        refine vco_k [6] ?_
        refine vc_ret ⟨.inr rfl, _, .tmp rfl (.nil), ?_⟩
        exact ⟨hl2, false, rfl, ⟨(fun h => by cases h), (fun h => by have h9 := (Chk.at2 h hst).2.2.1; rw [h9] at hray; simp at hray)⟩⟩
      ·
       skip
       refine vc_sr ?_
       refine vco_run tbOk 2 rfl ?_
       refine vco_call rfl rfl (Sign_ok hq (by omega)) ?_
       rintro v2 H2 ⟨hl2, rfl⟩
       refine vco_cmp true rfl rfl (ceq_t (sgn_eq.2 hv0)) ?_
       refine vco_run tbOk 4 rfl ?_
       refine vco_cmp false rfl rfl (ceq_f (by omega)) ?_
       refine vco_run tbOk 14 rfl ?_
       refine vco_k [6] ?_
       refine vc_ret ⟨.inr rfl, _, .tmp rfl (.nil), ?_⟩
       exact ⟨hl2, false, rfl, ⟨(fun h => by cases h), (fun h => by have h9 := (Chk.at2 h hst).2.1; rw [h9] at hx0; simp at hx0)⟩⟩
     ·
      skip
      refine vc_sr ?_
      refine vco_run tbOk 2 rfl ?_
      refine vco_call rfl rfl (Sign_ok hq (by omega)) ?_
      rintro v2 H2 ⟨hl2, rfl⟩
      refine vco_cmp false rfl rfl (ceq_f (fun e => hv0 (sgn_eq.1 e))) ?_
      refine vco_run tbOk 19 rfl ?_
      refine vco_k [6] ?_
      refine vc_ret ⟨.inr rfl, _, .tmp rfl (.nil), ?_⟩
      exact ⟨hl2, false, rfl, ⟨(fun h => by cases h), (fun h => absurd (Chk.at2 h hst).1 hv0)⟩⟩
    ·
     have hst2 : ¬ S.status = 2 := by simpa using hb
     refine vc_sr ?_
     refine vco_run tbOk 2 rfl ?_
     refine vco_k [1, 3, 5, 72] ?_
     refine vc_cond rfl (fun hb => ?_) (fun hb => ?_)
     ·
      have hst : S.status = 3 := by simpa using hb
      by_cases hv0 : S.value = 0
      ·
       skip
       by_cases hd0 : S.dual.length = 0
       ·
        skip
        refine vc_sr ?_
        refine vco_run tbOk 2 rfl ?_
        refine vco_call rfl rfl (Sign_ok hq (by omega)) ?_
        rintro v2 H2 ⟨hl2, rfl⟩
        refine vco_cmp true rfl rfl (ceq_t (sgn_eq.2 hv0)) ?_
        refine vco_run tbOk 4 rfl ?_
        refine vco_cmp true rfl rfl (ceq_t (by omega)) ?_
        refine vco_run tbOk 8 rfl ?_
        refine vco_call rfl rfl (CheckUnbounded_ok (hp.le hl2) (hc.le (ratUp N) hl2) (hx.le (ratUp N) hl2) (hr.le (ratUp N) hl2) hxN hN) ?_
        rintro v3 H3 ⟨hl3, b3, rfl, hb3⟩
        refine vco_run tbOk 2 rfl ?_
        refine vco_k [6] ?_
        refine vc_ret ⟨.inr rfl, _, .tmp rfl (.nil), ?_⟩
        exact ⟨hl2.trans hl3, b3, rfl, ⟨(fun h => .inr (.inr ⟨hst, hv0, List.eq_nil_of_length_eq_zero hd0, hb3.1 h⟩)), (fun h => hb3.2 (Chk.at3 h hst).2.2)⟩⟩
       ·
        skip
        refine vc_sr ?_
        refine vco_run tbOk 2 rfl ?_
        refine vco_call rfl rfl (Sign_ok hq (by omega)) ?_
        rintro v2 H2 ⟨hl2, rfl⟩
        refine vco_cmp true rfl rfl (ceq_t (sgn_eq.2 hv0)) ?_
        refine vco_run tbOk 4 rfl ?_
        refine vco_cmp false rfl rfl (ceq_f (by omega)) ?_
        refine vco_run tbOk 11 rfl ?_
        refine vco_k [6] ?_
        refine vc_ret ⟨.inr rfl, _, .tmp rfl (.nil), ?_⟩
        exact ⟨hl2, false, rfl, ⟨(fun h => by cases h), (fun h => by have h9 := (Chk.at3 h hst).2.1; rw [h9] at hd0; simp at hd0)⟩⟩
      ·
       skip
       refine vc_sr ?_
       refine vco_run tbOk 2 rfl ?_
       refine vco_call rfl rfl (Sign_ok hq (by omega)) ?_
       rintro v2 H2 ⟨hl2, rfl⟩
       refine vco_cmp false rfl rfl (ceq_f (fun e => hv0 (sgn_eq.1 e))) ?_
       refine vco_run tbOk 16 rfl ?_
       refine vco_k [6] ?_
       refine vc_ret ⟨.inr rfl, _, .tmp rfl (.nil), ?_⟩
       exact ⟨hl2, false, rfl, ⟨(fun h => by cases h), (fun h => absurd (Chk.at3 h hst).1 hv0)⟩⟩
     ·
      have hst3 : ¬ S.status = 3 := by simpa using hb
      refine vc_skip ?_
      refine vc_keep [] rfl ?_
      refine vc_sr ?_
      refine vco_run tbOk 1 rfl ?_
      refine vco_k [6] ?_
      refine vc_ret ⟨.inr rfl, _, .tmp rfl (.nil), ?_⟩
      exact ⟨.refl _, false, rfl, ⟨(fun h => by cases h), (fun h => by rcases h with ⟨h1, _⟩ | ⟨h1, _⟩ | ⟨h1, _⟩ <;> omega)⟩⟩
  ·
   skip
   refine vc_sr ?_
   refine vco_run tbOk 1 rfl ?_
   refine vco_call rfl rfl (Valid_yes hp hok) ?_
   rintro v1 H1 ⟨e1, rfl⟩
   rw [e1]
   refine vco_run tbOk 7 rfl ?_
   refine vco_cmp true rfl rfl (cne_t (by omega)) ?_
   refine vco_run tbOk 1 rfl ?_
   refine vco_k [1, 3, 5, 17] ?_
   refine vc_cond_t rfl ?_
   refine vc_sr ?_
   refine vco_run tbOk 1 rfl ?_
   refine vco_k [6] ?_
   refine vc_ret ⟨.inr rfl, _, .tmp rfl (.nil), ?_⟩
   exact ⟨.refl _, false, rfl, ⟨(fun h => by cases h), (fun h => absurd (Chk.ok h).2 hcl)⟩⟩
 ·
  skip
  refine vc_sr ?_
  refine vco_run tbOk 1 rfl ?_
  refine vco_call rfl rfl (Valid_no hp hok) ?_
  rintro v1 H1 ⟨e1, rfl⟩
  rw [e1]
  refine vco_run tbOk 9 rfl ?_
  refine vco_k [1, 3, 5, 17] ?_
  refine vc_cond_t rfl ?_
  refine vc_sr ?_
  refine vco_run tbOk 1 rfl ?_
  refine vco_k [6] ?_
  refine vc_ret ⟨.inr rfl, _, .tmp rfl (.nil), ?_⟩
  exact ⟨.refl _, false, rfl, ⟨(fun h => by cases h), (fun h => absurd (Chk.ok h).1 hok)⟩⟩
end Go.Eng
/- Walks over package amortcostlaw22, part 1: rats. -/
namespace Go.Eng
open Go.Proofs Num Lp
theorem one_rat (f : Bool) (A A' : Option Addr) (k c k' c' : Nat) : ∀ u, u ∈ [Value.bool f, .slice A k c, .slice A' k' c'] → u.oneCell' = true := fun u hu => by
  simp only [List.mem_cons, List.not_mem_nil, or_false] at hu
  rcases hu with rfl | rfl | rfl <;> rfl
theorem own_blk {H : Heap} {v : Value} {e sz n : Nat} {xs : List Value} (h : Own H v e sz n xs) : ∀ q, q ∈ blk v → H q ≠ none := fun q hq => by
  obtain ⟨en, he⟩ := h.block (blk_mem.1 hq)
  rw [he]; simp
theorem take_succ_cast {l : List Int} {k : Nat} {z : Int} (h : l[k]? = some z) : (l.take (k + 1)).map (fun z : Int => (z : Rat)) = (l.take k).map (fun z : Int => (z : Rat)) ++ [(z : Rat)] := by
  rw [List.take_add_one, h, List.map_append]; rfl
theorem rats_ok {H : Heap} {v : Value} {l : List Int} (hv : SlV IntP 1 H v l) (hz : ∀ z, z ∈ l → -9223372036854775808 ≤ z ∧ z ≤ 9223372036854775807) (hl : (l.length : Int) ≤ 1099511627776) :
  Fn Tryz.prog 45 #[v] H (RetS CanP 3 H (l.map (fun z : Int => (z : Rat)))) := by
 obtain ⟨A, c, ys, rfl, hr, hxl⟩ := hv.one
 refine fn_intro (args := [_]) Tryz.func45 rfl rfl Tryz.ntmps45 rfl rfl fun w0 => ?_
 refine vc_keep [0] rfl ?_
 refine vc_sr ?_
 refine vco_run tbOk 1 rfl ?_
 refine vco_k [0] ?_
 refine vc_sr ?_
 refine vco_run tbOk 2 rfl ?_
 refine vco_make Tryz.underlying26 el34 rfl rfl rfl (by omega) (by omega) (by omega) (by omega) ?_
 intro g hg
 have hown0 : Own (ins H g ⟨madeL [.bool false, .slice none 0 0, .slice none 0 0] ((0 : Int).toNat * 3), ((l.length : Int)).toNat * 3, 34, true⟩) (.slice (some ⟨g, 0, none⟩) (0 : Int).toNat ((l.length : Int)).toNat) 34 3 0 [] := ⟨rfl, .inr ⟨g, _, rfl, by rw [ins_same]; rfl, Nat.zero_le _, by show _ ≤ maxLen; unfold maxLen; omega⟩⟩
 have hle0 : Heap.le H (ins H g ⟨madeL [.bool false, .slice none 0 0, .slice none 0 0] ((0 : Int).toNat * 3), ((l.length : Int)).toNat * 3, 34, true⟩) := Heap.le_ins _ hg
 refine vco_run tbOk 1 rfl ?_
 refine vco_k [0, 3] ?_
 refine vc_seq ?_
 refine vc_sr ?_
 refine vco_run tbOk 3 rfl ?_
 refine vco_k [3, 9, 10, 11] ?_
 refine vc_block ?_
 refine vc_loop3 (fun (k : Nat) (vv : Value) (xs : List Value) => l.length - k) (fun (k : Nat) (vv : Value) (xs : List Value) => put (put (put (put (emp) 3 (.val (vv))) 9 (.val (.slice A l.length c))) 10 (.val (.int .i64 (l.length : Int)))) 11 (.val (.int .i64 (k : Int)))) (fun (k : Nat) (vv : Value) (xs : List Value) H' => Heap.le H H' ∧ Own H' vv 34 3 k xs ∧ Els (CanP H') 3 xs ((l.take k).map (fun z : Int => (z : Rat))) ∧ k ≤ l.length) 0 _ [] (⟨hle0, hown0, els_nil, Nat.zero_le _⟩) sub_auto ?_
 rintro k vv xs H1 ⟨hle1, hown1, hel1, hk1⟩
 refine vc_sr ?_
 refine vco_run tbOk 1 rfl ?_
 refine vco_k [3, 9, 10, 11, 12] ?_
 refine vc_seq ?_
 refine vc_cond rfl (fun hb => ?_) (fun hb => ?_)
 ·
  have hb : k < l.length := by simpa using hb
  obtain ⟨q, hqk⟩ : ∃ q, l[k]? = some q := ⟨_, List.getElem?_eq_getElem hb⟩
  obtain ⟨u, hu, hue⟩ := hxl k q hqk
  cases hue
  have hq9 := hz q (List.mem_of_getElem? hqk)
  refine vc_skip ?_
  refine vc_keep [3, 9, 10, 11] rfl ?_
  refine vc_seq ?_
  refine vc_block ?_
  refine vc_sr ?_
  refine vco_at tbOk rfl rfl rfl rfl rfl (hr.le hle1) (by rw [Int.toNat_natCast]; exact hu) (by omega) (by omega) fun _ => ?_
  refine vco_run tbOk 1 rfl ?_
  refine vco_k [3, 5, 9, 10, 11] ?_
  refine vc_region rfl ?_
  refine vco_run tbOk 2 rfl ?_
  refine vco_call rfl rfl (Fn.frame (gs := blk vv) (own_blk hown1) (rFromInt_ok hq9.1 hq9.2)) ?_
  rintro v2 H2 hf2
  have hl2 : Heap.le H1 H2 := hf2.le fun v K h => h.1
  obtain ⟨⟨hlg2, hq2⟩, hs2⟩ := hf2
  have hown2 : Own H2 vv 34 3 k xs := hown1.same fun q hq => hs2 q (blk_mem.2 hq)
  obtain ⟨u2, w2, rfl, hu2, hw2⟩ := id hq2
  obtain ⟨A2, c2, rfl, hc2, hr2⟩ := id hu2
  obtain ⟨A3, c3, rfl, hc3, hr3⟩ := id hw2
  refine vco_build Tryz.underlying26 el34 rfl rfl rfl rfl rfl rfl rfl ?_
  intro gb hgb
  refine vco_append Tryz.underlying26 el34 rfl rfl (hown2.ins _ hgb) (rd_ins _ _ _ _ _ _) rfl (one_rat _ _ _ _ _ _ _) (by omega) (by omega) ?_
  intro v5 H5 ha5
  have hle25 : Heap.le H2 H5 := (Heap.le_ins _ hgb).trans ha5.le
  have hle5 := (hle1.trans hl2).trans hle25
  refine vco_run tbOk 1 rfl ?_
  refine vco_end ?_
  refine vc_keep [3, 9, 10, 11] rfl ?_
  refine vc_region rfl ?_
  refine vco_add rfl rfl ⟨by omega, by omega⟩ ?_
  refine vco_run tbOk 1 rfl ?_
  refine vco_end ?_
  exact ⟨k + 1, _, _, by omega, sub_auto, hle5, ha5.own, by rw [take_succ_cast hqk]; exact (hel1.mono fun vs a => canUp _ _ vs a (hl2.trans hle25)).append (els_one (canUp _ _ _ _ ((rem_le _ _).trans hle25) (show CanP _ [_, _, _] _ from hq2)) rfl), by omega⟩
 ·
  have hb : l.length ≤ k := by simpa using hb
  obtain rfl : k = l.length := by omega
  obtain ⟨A9, c9, rfl⟩ := hown1.form
  have hc9 : l.length ≤ c9 := by rcases hown1.2 with ⟨h1, h2⟩ | ⟨g9, cap, h1, _, h3, _⟩; omega; (cases h1; exact h3)
  rw [List.take_length] at hel1
  refine vc_exit ?_
  refine vc_keep [3] rfl ?_
  refine vc_sr ?_
  refine vco_run tbOk 2 rfl ?_
  refine vco_k [2] ?_
  refine vc_ret ⟨.inr rfl, _, .tmp rfl (.nil), ?_⟩
  exact ⟨hle1, A9, c9, xs, by rw [List.length_map]; rfl, by rw [List.length_map]; exact hc9, hown1.rd, hel1⟩
end Go.Eng
/- The program that law22's sane solves. -/
namespace Go.Eng
open Go.Proofs Num Lp
def sp : Prg := ⟨[false, false], [([1, 2], 3, 4), ([3, 1], 3, 6)]⟩
theorem sp_ok : sp.Ok := by
  refine ⟨by decide, by decide, fun i r h => ?_⟩
  match i, h with
  | 0, h => cases h; exact ⟨rfl, .inr (.inr rfl)⟩
  | 1, h => cases h; exact ⟨rfl, .inr (.inr rfl)⟩
  | i + 2, h => simp [sp] at h
theorem sp_a (y0 y1 : Rat) : sp.lp.colsum (fn [y0, y1]) 0 = y0 + 3 * y1 ∧ sp.lp.colsum (fn [y0, y1]) 1 = 2 * y0 + y1 ∧ sp.lp.bndsum (fn [y0, y1]) = 4 * y0 + 6 * y1 := by
  refine ⟨?_, ?_, ?_⟩
  · show 0 + y0 * 1 + y1 * 3 = _; grind
  · show 0 + y0 * 2 + y1 * 1 = _; grind
  · show 0 + y0 * 4 + y1 * 6 = _; grind
theorem sp_opt : sp.lp.IsOpt (fn [1, 1]) (14 / 5) := by
  obtain ⟨a0, a1, a2⟩ := sp_a (2 / 5) (1 / 5)
  have e : dotN sp.lp.n (fn [1, 1]) (fn [8 / 5, 6 / 5]) = 14 / 5 := by show 0 + 1 * (8 / 5 : Rat) + 1 * (6 / 5) = _; grind
  have h : sp.lp.CertOpt (fn [1, 1]) (fn [8 / 5, 6 / 5]) (fn [2 / 5, 1 / 5]) := by
    refine ⟨⟨fun j hj _ => ?_, fun i hi => ?_⟩, fun i hi => ?_, fun j hj => ?_, ?_⟩
    · match j, hj with
      | 0, _ => show (0 : Rat) ≤ 8 / 5; grind
      | 1, _ => show (0 : Rat) ≤ 6 / 5; grind
    · match i, hi with
      | 0, _ => exact ⟨(fun e => by cases e), (fun e => by cases e), (fun _ => by show (0 : Rat) ≤ 0 + 1 * (8 / 5) + 2 * (6 / 5) - 4 * 1; grind)⟩
      | 1, _ => exact ⟨(fun e => by cases e), (fun e => by cases e), (fun _ => by show (0 : Rat) ≤ 0 + 3 * (8 / 5) + 1 * (6 / 5) - 6 * 1; grind)⟩
    · match i, hi with
      | 0, _ => exact ⟨(fun _ => by show (0 : Rat) ≤ 2 / 5; grind), (fun e => by cases e)⟩
      | 1, _ => exact ⟨(fun _ => by show (0 : Rat) ≤ 1 / 5; grind), (fun e => by cases e)⟩
    · match j, hj with
      | 0, _ => exact ⟨(by rw [a0]; show (0 : Rat) ≤ 1 - _; grind), (fun e => by cases e)⟩
      | 1, _ => exact ⟨(by rw [a1]; show (0 : Rat) ≤ 1 - _; grind), (fun e => by cases e)⟩
    · rw [a2, e]; grind
  have h2 := h.isOpt sp_ok.valid
  rwa [e] at h2
def sl : List Rat := [1, 2, 4, 3, 1, 6, 1, 1]
theorem sp_in : In sl sp := fun i hi j hj => by
  match i, hi, j, hj with
  | 0, _, 0, _ => show (1 : Rat) ∈ sl; simp [sl]
  | 0, _, 1, _ => show (2 : Rat) ∈ sl; simp [sl]
  | 1, _, 0, _ => show (3 : Rat) ∈ sl; simp [sl]
  | 1, _, 1, _ => show (1 : Rat) ∈ sl; simp [sl]
theorem sp_b : ∀ i, i < sp.lp.m → sp.lp.b i ∈ sl := fun i hi => by
  match i, hi with
  | 0, _ => show (4 : Rat) ∈ sl; simp [sl]
  | 1, _ => show (6 : Rat) ∈ sl; simp [sl]
theorem sp_c : ∀ j, j < sp.lp.n → fn [1, 1] j ∈ sl := fun j hj => by
  match j, hj with
  | 0, _ => show (1 : Rat) ∈ sl; simp [sl]
  | 1, _ => show (1 : Rat) ∈ sl; simp [sl]
theorem sp_bits : bits sl sp.lp.m sp.lp.m (2 * Tab.wts sl) ≤ 100000 := by decide
theorem sp_fit : Fits sp [1, 1] (bits sl sp.lp.m sp.lp.m (2 * Tab.wts sl)) := fit_all sp_in sp_c sp_b
end Go.Eng
/- The engine, part 14: 'x[i].f' as one step. -/
namespace Go.Eng
section
variable {P : Program} {n : Nat} {all : Array Oper} {md : Mode} {tb : Tb} {s : St} {H : Heap} {K : St → Heap → Prop} {r : List Oper} {ty : TypeId} {pos : String} {after : Array Edge} {gd : Option (Nat × Bool)}
theorem put_val_same (s : St) (d : Nat) (v : Value) : ev (put s d (.val v)) (.tmp d) = some v := by simp [ev, put]
/-- 'x[i].f' of one cell. -/
theorem vco_atf {t t2 t3 : TypeId} {x i : Operand} {A : Option Addr} {m c d1 d2 f o z : Nat} {dst3 : Option Nat} {ty2 ty3 : TypeId} {pos2 pos3 : String} {after2 after3 : Array Edge} {gd2 gd3 : Option (Nat × Bool)} {k : IntKind} {j : Int} {e sz sz2 : Nat} {ps : List (Nat × Nat)} {ti : Ti} {xs : List Value} {v : Value}
    (htb : TbOk P tb) (ht : tb[t]? = some (.sl e sz)) (ht2 : tb[t2]? = some (.st sz2 ps)) (hf : ps[f]? = some (o, z)) (ht3 : tb[t3]? = some ti) (h1 : oneB ti = true) (hx : ev s x = some (.slice A m c)) (hi : ev s i = some (.int k j)) (hr : Rd H A xs) (hv : xs[j.toNat * sz + o]? = some v) (h0 : 0 ≤ j) (hm : j < m)
    (hk : ∀ a1 a2 : Addr, VCO P n all md r (putO (put (put s d1 (.val (.pointer (some a1)))) d2 (.val (.pointer (some a2)))) dst3 (.val v)) H K)
    (hg : gdB all s gd = some true := by rfl) (nb : md.nb s (some d1) = true := by rfl)
    (hg2 : ∀ a1 : Addr, gdB all (put s d1 (.val (.pointer (some a1)))) gd2 = some true := by exact fun _ => rfl) (nb2 : ∀ a1 : Addr, md.nb (put s d1 (.val (.pointer (some a1)))) (some d2) = true := by exact fun _ => rfl)
    (hg3 : ∀ a1 a2 : Addr, gdB all (put (put s d1 (.val (.pointer (some a1)))) d2 (.val (.pointer (some a2)))) gd3 = some true := by exact fun _ _ => rfl) (nb3 : ∀ a1 a2 : Addr, md.nb (put (put s d1 (.val (.pointer (some a1)))) d2 (.val (.pointer (some a2)))) dst3 = true := by exact fun _ _ => rfl) :
    VCO P n all md (⟨some d1, .indexAddr t x i, ty, pos, after, gd⟩ :: ⟨some d2, .fieldAddr t2 (.tmp d1) f, ty2, pos2, after2, gd2⟩ :: ⟨dst3, .load t3 (.tmp d2), ty3, pos3, after3, gd3⟩ :: r) s H K := by
  obtain ⟨ad, rfl, hc⟩ := hr _ _ hv
  refine vco_index htb ht hx hi h0 hm ?_ hg nb
  refine vco_hfld (ad := ad.add (j.toNat * sz)) htb ht2 hf (put_val_same _ _ _) ?_ (hg2 _) (nb2 _)
  refine vco_hload (ad := (ad.add (j.toNat * sz)).add o) htb ht3 h1 (put_val_same _ _ _) (by rw [add_add]; exact hc) ?_ (hg3 _ _) (nb3 _ _)
  exact hk _ _
/-- 'x[i].f' of a struct. -/
theorem vco_atf_st {t t2 t3 : TypeId} {x i : Operand} {A : Option Addr} {m c d1 d2 f o z : Nat} {dst3 : Option Nat} {ty2 ty3 : TypeId} {pos2 pos3 : String} {after2 after3 : Array Edge} {gd2 gd3 : Option (Nat × Bool)} {k : IntKind} {j : Int} {e sz sz2 sz3 : Nat} {ps offs : List (Nat × Nat)} {xs vs : List Value}
    (htb : TbOk P tb) (ht : tb[t]? = some (.sl e sz)) (ht2 : tb[t2]? = some (.st sz2 ps)) (hf : ps[f]? = some (o, z)) (ht3 : tb[t3]? = some (.st sz3 offs)) (hx : ev s x = some (.slice A m c)) (hi : ev s i = some (.int k j)) (hr : Rd H A xs) (hl : vs.length = sz3) (hp : 0 < sz3) (hv : ∀ (q : Nat) (v : Value), vs[q]? = some v → xs[j.toNat * sz + o + q]? = some v) (h0 : 0 ≤ j) (hm : j < m)
    (hk : ∀ a1 a2 : Addr, VCO P n all md r (putO (put (put s d1 (.val (.pointer (some a1)))) d2 (.val (.pointer (some a2)))) dst3 (.val (.agg vs.toArray))) H K)
    (hg : gdB all s gd = some true := by rfl) (nb : md.nb s (some d1) = true := by rfl)
    (hg2 : ∀ a1 : Addr, gdB all (put s d1 (.val (.pointer (some a1)))) gd2 = some true := by exact fun _ => rfl) (nb2 : ∀ a1 : Addr, md.nb (put s d1 (.val (.pointer (some a1)))) (some d2) = true := by exact fun _ => rfl)
    (hg3 : ∀ a1 a2 : Addr, gdB all (put (put s d1 (.val (.pointer (some a1)))) d2 (.val (.pointer (some a2)))) gd3 = some true := by exact fun _ _ => rfl) (nb3 : ∀ a1 a2 : Addr, md.nb (put (put s d1 (.val (.pointer (some a1)))) d2 (.val (.pointer (some a2)))) dst3 = true := by exact fun _ _ => rfl) :
    VCO P n all md (⟨some d1, .indexAddr t x i, ty, pos, after, gd⟩ :: ⟨some d2, .fieldAddr t2 (.tmp d1) f, ty2, pos2, after2, gd2⟩ :: ⟨dst3, .load t3 (.tmp d2), ty3, pos3, after3, gd3⟩ :: r) s H K := by
  obtain ⟨ad, rfl, hc⟩ := hr _ _ (hv 0 _ (List.getElem?_eq_getElem (by omega)))
  refine vco_index htb ht hx hi h0 hm ?_ hg nb
  refine vco_hfld (ad := ad.add (j.toNat * sz)) htb ht2 hf (put_val_same _ _ _) ?_ (hg2 _) (nb2 _)
  refine vco_hload_st (ad := (ad.add (j.toNat * sz)).add o) (vs := vs) htb ht3 (put_val_same _ _ _) hl (fun q v hq => by
    obtain ⟨ad', h1, h2⟩ := hr _ _ (hv q v hq)
    cases h1
    rw [add_add, add_add, ← Nat.add_assoc]; exact h2) ?_ (hg3 _ _) (nb3 _ _)
  exact hk _ _
end
end Go.Eng
/- Walks over package amortcostlaw22: sane. -/
namespace Go.Eng
open Go.Proofs Num Lp
theorem slV_of_whole {α : Type} {P : Heap → List Value → α → Prop} {H : Heap} {g e sz k : Nat} {xs : List Value} {l : List α} (hk : k = l.length) (h : Els (P (ins H g (whole xs e))) sz xs l) : SlV P sz (ins H g (whole xs e)) (.slice (some ⟨g, 0, none⟩) k k) l := by
  subst hk; exact ⟨_, _, xs, rfl, Nat.le_refl _, rd_ins _ _ _ _ _ _, h⟩
theorem els_cons {α : Type} {P : List Value → α → Prop} {sz : Nat} {vs xs : List Value} {a : α} {l : List α} (h : P vs a) (hl : vs.length = sz) (k : Els P sz xs l) : Els P sz (vs ++ xs) (a :: l) := (els_one h hl).append k
theorem slV_ints2 {H : Heap} {g e : Nat} (a b : Int) : SlV IntP 1 (ins H g (whole (cellsL [.int .i64 a, .int .i64 b]) e)) (.slice (some ⟨g, 0, none⟩) 2 2) [a, b] :=
  slV_of_whole (l := [a, b]) rfl (els_cons (vs := [.int .i64 a]) rfl rfl (els_cons (vs := [.int .i64 b]) rfl rfl els_nil))
theorem SlV.can_rat {H : Heap} {v : Value} {l : List Rat} {N : Nat} (h : SlV CanP 3 H v l) (hs : ∀ q, q ∈ l → szQ q ≤ N) : SlV (RatP N) 3 H v l := by
  obtain ⟨A, c, xs, h1, h2, h3, h4⟩ := h
  exact ⟨A, c, xs, h1, h2, h3, h4.len, fun i a ha => CanP.rat (h4.at_ i a ha) (hs a (List.mem_of_getElem? ha))⟩
theorem rats2_ok {H : Heap} {v : Value} {a b : Int} (hv : SlV IntP 1 H v [a, b]) (ha : -9 ≤ a ∧ a ≤ 9) (hb : -9 ≤ b ∧ b ≤ 9) : Fn Tryz.prog 45 #[v] H (fun v' H' => Heap.le H H' ∧ ∃ A c, v' = .slice A 2 c ∧ SlV CanP 3 H' (.slice A 2 c) [(a : Rat), (b : Rat)]) :=
  (rats_ok hv (fun z hz => by simp only [List.mem_cons, List.not_mem_nil, or_false] at hz; rcases hz with rfl | rfl <;> omega) (by show ((2 : Nat) : Int) ≤ _; decide)).mono fun v' H' ⟨h1, h2⟩ => by
    obtain ⟨A, c, xs, rfl, h3⟩ := id h2
    exact ⟨h1, A, c, rfl, h2⟩
theorem from_ok {H : Heap} {n : Int} (h1 : -9223372036854775808 ≤ n) (h2 : n ≤ 9223372036854775807) :
    Fn Tryz.prog 32 #[.int .i64 n] H (fun v H' => Heap.le H H' ∧ ∃ f A1 m1 c1 A2 m2 c2, v = .agg #[.bool f, .slice A1 m1 c1, .slice A2 m2 c2] ∧ CanV H' (.agg #[.bool f, .slice A1 m1 c1, .slice A2 m2 c2]) (n : Rat)) :=
  (rFromInt_ok h1 h2).mono fun v H' ⟨hl, hq⟩ => by
    obtain ⟨u, w, rfl, hu, hw⟩ := id hq
    obtain ⟨A1, c1, rfl, _⟩ := id hu
    obtain ⟨A2, c2, rfl, _⟩ := id hw
    exact ⟨hl, _, _, _, _, _, _, _, rfl, hq⟩
theorem SlV.mono {α : Type} {P P' : Heap → List Value → α → Prop} {sz : Nat} {H : Heap} {v : Value} {l : List α} (h : SlV P sz H v l) (hp : ∀ vs a, P H vs a → P' H vs a) : SlV P' sz H v l := by
  obtain ⟨A, c, xs, h1, h2, h3, h4⟩ := h
  exact ⟨A, c, xs, h1, h2, h3, h4.mono hp⟩
theorem RatP.mono {N M : Nat} {H : Heap} {vs : List Value} {q : Rat} (h : RatP N H vs q) (hl : N ≤ M) : RatP M H vs q := RawV.mono h hl
theorem ProgV.mono {N M : Nat} {H : Heap} {v : Value} {p : Prg} (h : ProgV N H v p) (hl : N ≤ M) : ProgV M H v p := by
  obtain ⟨fv, rv, h1, h2, h3⟩ := h
  exact ⟨fv, rv, h1, h2, h3.mono fun vs r ⟨c, f, u, w, k1, k2, k3⟩ => ⟨c, f, u, w, k1, k2.mono fun _ _ h => h.mono hl, k3.mono hl⟩⟩
theorem cmpQ_self (q : Rat) : cmpQ q q = 0 := by unfold cmpQ; simp
theorem sz9 : ∀ z : Rat, z ∈ [1, 2, 3, 4, (6 : Rat)] → szQ z ≤ 2 := by decide
/-- What Minimize gives for sane's program. -/
theorem sane_min {H H' : Heap} {v : Value} (h : MinP sp [1, 1] (bits sl sp.lp.m sp.lp.m (2 * Tab.wts sl)) H v H') : Heap.le H H' ∧ ∃ f A1 m1 c1 A2 m2 c2 Ax kx cx Ad kd cd Ar kr cr S, v = .tuple #[.agg #[.int .i64 1, .bool f, .slice A1 m1 c1, .slice A2 m2 c2, .slice Ax kx cx, .slice Ad kd cd, .slice Ar kr cr], .int .i64 0] ∧ S.status = 1 ∧ S.value = 14 / 5 ∧ CanV H' (.agg #[.bool f, .slice A1 m1 c1, .slice A2 m2 c2]) S.value ∧ SlV CanP 3 H' (.slice Ax kx cx) S.x ∧ SlV CanP 3 H' (.slice Ad kd cd) S.dual ∧ SlV CanP 3 H' (.slice Ar kr cr) S.ray ∧ Chk sp [1, 1] S ∧ SolZ 1000000 S := by
  obtain ⟨hl, s, e, rfl, h⟩ := h
  refine ⟨hl, ?_⟩
  rcases h with ⟨h1, _⟩ | ⟨_, h1, _⟩ | ⟨_, _, rfl, S, h1, h2, h3, _⟩
  · exact absurd sp_ok h1
  · exact absurd rfl h1
  · obtain ⟨f, u, w, xv, dv, rv, rfl, h4, h5, h6, h7⟩ := h1
    obtain ⟨k1, k2⟩ : S.status = 1 ∧ S.value = 14 / 5 := by
      rcases h2.sem with ⟨k1, k2⟩ | ⟨k1, k2, _⟩ | ⟨k1, k2, _⟩
      · exact ⟨k1, LP.opt_opt k2 sp_opt⟩
      · exact (LP.opt_inf sp_opt k2).elim
      · exact (LP.opt_unb sp_opt k2).elim
    have h8 : CanV H' (.agg #[.bool f, u, w]) S.value := by
      rcases h4 with h4 | ⟨h4, _⟩
      · exact h4
      · rw [k2] at h4; exact absurd h4 (by grind)
    obtain ⟨u', w', e, hu, hw⟩ := id h8
    have e' := arr3 (vs := [.bool f, u, w]) e
    simp only [List.cons.injEq, and_true] at e'
    obtain ⟨_, rfl, rfl⟩ := e'
    obtain ⟨A1, c1, rfl, _⟩ := id hu
    obtain ⟨A2, c2, rfl, _⟩ := id hw
    obtain ⟨Ax, cx, _, rfl, _⟩ := id h5
    obtain ⟨Ad, cd, _, rfl, _⟩ := id h6
    obtain ⟨Ar, cr, _, rfl, _⟩ := id h7
    have h9 := sp_bits
    exact ⟨_, _, _, _, _, _, _, _, _, _, _, _, _, _, _, _, S, by rw [k1], k1, k2, h8, h5, h6, h7, h2, fun q hq => Nat.le_trans (h3 q hq) (by omega)⟩
theorem sane_ok {H : Heap} :
  Fn Tryz.prog 15 #[] H (fun v H' => Heap.le H H' ∧ v = .bool true) := by
 refine fn_intro (args := []) Tryz.func15 rfl rfl Tryz.ntmps15 rfl rfl fun w0 => ?_
 refine vc_keep [] rfl ?_
 refine vc_sr ?_
 refine vco_run tbOk 1 rfl ?_
 refine vco_k [] ?_
 refine vc_sr ?_
 refine vco_build Tryz.underlying22 el4 rfl rfl rfl rfl rfl rfl rfl ?_
 intro g0 hg0
 have hf0 : SlV BoolP 1 _ _ [false, false] := slV_of_whole (H := H) (g := g0) (e := 4) (P := BoolP) (sz := 1) (k := 2) (xs := cellsL [.bool false, .bool false]) (l := [false, false]) rfl (els_cons (vs := [.bool false]) rfl rfl (els_cons (vs := [.bool false]) rfl rfl els_nil))
 have hl0 := Heap.le_ins (whole (cellsL [.bool false, .bool false]) 4) hg0
 refine vco_build Tryz.underlying120 el2 rfl rfl rfl rfl rfl rfl rfl ?_
 intro g1 hg1
 have hl1 := Heap.le_ins (whole (cellsL [.int .i64 1, .int .i64 2]) 2) hg1
 refine vco_call rfl rfl (rats2_ok (slV_ints2 1 2) (by omega) (by omega)) ?_
 rintro _ H2 ⟨hl2, A2, c2, rfl, hs2⟩
 have h02 := hl1.trans hl2
 refine vco_call rfl rfl (from_ok (by omega) (by omega)) ?_
 rintro _ H3 ⟨hl3, f3, A31, m31, c31, A32, m32, c32, rfl, hq3⟩
 have h03 := h02.trans hl3
 refine vco_st tbOk rfl el46 rfl rfl ?_
 refine vco_build Tryz.underlying120 el2 rfl rfl rfl rfl rfl rfl rfl ?_
 intro g4 hg4
 have hl4 := Heap.le_ins (whole (cellsL [.int .i64 3, .int .i64 1]) 2) hg4
 refine vco_call rfl rfl (rats2_ok (slV_ints2 3 1) (by omega) (by omega)) ?_
 rintro _ H5 ⟨hl5, A5, c5, rfl, hs5⟩
 have h35 := hl4.trans hl5
 refine vco_call rfl rfl (from_ok (by omega) (by omega)) ?_
 rintro _ H6 ⟨hl6, f6, A61, m61, c61, A62, m62, c62, rfl, hq6⟩
 have h36 := h35.trans hl6
 refine vco_st tbOk rfl el46 rfl rfl ?_
 refine vco_build Tryz.underlying23 el46 rfl rfl rfl rfl rfl rfl rfl ?_
 intro g9 hg9
 have hl9 := Heap.le_ins (whole (cellsL [.agg #[.slice A2 2 c2, .int .i64 3, .bool f3, .slice A31 m31 c31, .slice A32 m32 c32], .agg #[.slice A5 2 c5, .int .i64 3, .bool f6, .slice A61 m61 c61, .slice A62 m62 c62]]) 46) hg9
 show VCO _ _ _ _ _ _ (ins H6 g9 (whole (cellsL [.agg #[.slice A2 2 c2, .int .i64 3, .bool f3, .slice A31 m31 c31, .slice A32 m32 c32], .agg #[.slice A5 2 c5, .int .i64 3, .bool f6, .slice A61 m61 c61, .slice A62 m62 c62]]) 46)) _
 generalize hH9 : ins H6 g9 (whole (cellsL [.agg #[.slice A2 2 c2, .int .i64 3, .bool f3, .slice A31 m31 c31, .slice A32 m32 c32], .agg #[.slice A5 2 c5, .int .i64 3, .bool f6, .slice A61 m61 c61, .slice A62 m62 c62]]) 46) = H9 at hl9 ⊢
 have h29 := (hl3.trans h36).trans hl9
 have hp9 : ProgV 2 H9 (.agg #[.slice (some ⟨g0, 0, none⟩) 2 2, .slice (some ⟨g9, 0, none⟩) 2 2]) sp := by
  refine ⟨_, _, rfl, hf0.le boolUp (h02.trans h29), ?_⟩
  have hz1 : ∀ q : Rat, q ∈ [((1 : Int) : Rat), ((2 : Int) : Rat)] → szQ q ≤ 2 := by decide
  have hz2 : ∀ q : Rat, q ∈ [((3 : Int) : Rat), ((1 : Int) : Rat)] → szQ q ≤ 2 := by decide
  have r1 : RowP 2 H9 [.slice A2 2 c2, .int .i64 3, .bool f3, .slice A31 m31 c31, .slice A32 m32 c32] ([1, 2], 3, 4) := ⟨_, _, _, _, rfl, (hs2.can_rat hz1).le (ratUp 2) h29, ((CanV.raw hq3).mono (by decide)).le (h36.trans hl9)⟩
  have r2 : RowP 2 H9 [.slice A5 2 c5, .int .i64 3, .bool f6, .slice A61 m61 c61, .slice A62 m62 c62] ([3, 1], 3, 6) := ⟨_, _, _, _, rfl, (hs5.can_rat hz2).le (ratUp 2) (hl6.trans hl9), ((CanV.raw hq6).mono (by decide)).le hl9⟩
  rw [← hH9] at r1 r2 ⊢
  exact slV_of_whole (l := sp.rows) rfl (els_cons r1 rfl (els_cons r2 rfl els_nil))
 have h09 := (hl0.trans h02).trans h29
 clear hf0 hs2 hs5 hq3 hq6
 refine vco_st tbOk rfl el25 rfl rfl ?_
 refine vco_alloc el25 rfl ?_
 obtain ⟨ti, hti, htz⟩ := sz25; refine vco_bstore (.inl ⟨rfl, rfl⟩) rfl rfl rfl hti htz rfl rfl rfl ?_
 refine vco_k [1] ?_
 refine vc_sd .drawB [0, 1, 2, 3, 4, 5, 6, 7, 8, 9] follows (by kernel_rfl) ?_
 refine vco_run tbOk 1 rfl ?_
 refine vco_build Tryz.underlying120 el2 rfl rfl rfl rfl rfl rfl rfl ?_
 intro g1 hg1
 have hl1 := Heap.le_ins (whole (cellsL [.int .i64 1, .int .i64 1]) 2) hg1
 refine vco_callM rfl rfl (rats2_ok (slV_ints2 1 1) (by omega) (by omega)) (fun _ _ h => by first | exact h.le | exact h.1) ?_
 rintro _ H10 ⟨hl10, A10, c10, rfl, hs10⟩
 have h910 := hl1.trans hl10
 have hz1 : ∀ q : Rat, q ∈ [((1 : Int) : Rat), ((1 : Int) : Rat)] → szQ q ≤ 2 := by decide
 have hc10 : SlV (RatP 2) 3 H10 (.slice A10 2 c10) [1, 1] := hs10.can_rat hz1
 refine vco_callM rfl rfl ((Minimize_ok (hp9.le h910) hc10 sp_fit (by decide) (by decide) (by have h9 := sp_bits; omega)).mono fun _ _ h => sane_min h) (fun _ _ h => by first | exact h.le | exact h.1) ?_
 rintro _ H11 ⟨hl11, f11, B1, m1, e1, B2, m2, e2, Bx, kx, ex, Bd, kd, ed, Br, kr, er, S, rfl, hst, hval, hcan, hsx, hsd, hsr, hchk, hsz⟩
 refine vco_run tbOk 3 rfl ?_
 refine vco_alloc el36 rfl ?_
 obtain ⟨ti, hti, htz⟩ := sz36; refine vco_bstore (.inl ⟨rfl, rfl⟩) rfl rfl rfl hti htz rfl rfl rfl ?_
 refine vco_run tbOk 1 rfl ?_
 refine vco_k [1, 2, 3] ?_
 have h011 := h09.trans (h910.trans hl11)
 have hp11 := hp9.le (h910.trans hl11)
 have hchk1 : Chk sp [1, 1] ⟨1, S.value, S.x, S.dual, S.ray⟩ := by rw [← hst]; exact hchk
 have hxl : (S.x.length : Int) ≤ 1099511627776 := by
  rcases hchk with ⟨_, _, h, _⟩ | ⟨h, _⟩ | ⟨h, _⟩
  · rw [h.feas.len]; decide
  · rw [hst] at h; exact absurd h (by decide)
  · rw [hst] at h; exact absurd h (by decide)
 refine vc_sd .drawB [0, 1, 2, 3, 4, 5, 6, 7, 8, 9, 10, 11, 12, 13, 14, 15, 18, 16, 17, 19, 20, 21] follows (by kernel_rfl) ?_
 refine vco_run tbOk 10 rfl ?_
 refine vco_callM rfl rfl ((rSmall_ok (H := H11) (a := 14) (b := 5) (by decide) (by decide) (by decide) (by decide)).mono fun v H' h => (⟨h.1, by
 exact ⟨v, rfl, by rw [hval, show (14 / 5 : Rat) = ((14 : Int) : Rat) / ((5 : Int) : Rat) from rfl]; exact h.2⟩⟩ : Heap.le H11 H' ∧ ∃ v0, v = v0 ∧ CanV H' v0 S.value)) (fun _ _ h => by first | exact h.le | exact h.1) ?_
 rintro _ H12 ⟨hl12, v12, rfl, hq12⟩
 refine vco_callM rfl rfl ((rCmp_ok (N := 1000000) (((CanV.raw hcan).mono (hsz _ (.inr (.inr (.inr rfl))))).le hl12) ((CanV.raw hq12).mono (hsz _ (.inr (.inr (.inr rfl))))) (by decide)).mono fun v H' h => (⟨h.1, by rw [h.2, cmpQ_self]⟩ : Heap.le H12 H' ∧ v = .int .i64 0)) (fun _ _ h => by first | exact h.le | exact h.1) ?_
 rintro _ H13 ⟨hl13, rfl⟩
 refine vco_run tbOk 5 rfl ?_
 refine vco_build Tryz.underlying120 el2 rfl rfl rfl rfl rfl rfl rfl ?_
 intro g1 hg1
 have hl14 := Heap.le_ins (whole (cellsL [.int .i64 1, .int .i64 1]) 2) hg1
 refine vco_callM rfl rfl (rats2_ok (slV_ints2 1 1) (by omega) (by omega)) (fun _ _ h => by first | exact h.le | exact h.1) ?_
 rintro _ H15 ⟨hl15, A15, c15, rfl, hs15⟩
 have hz2 : ∀ q : Rat, q ∈ [((1 : Int) : Rat), ((1 : Int) : Rat)] → szQ q ≤ 1000000 := fun q hq => Nat.le_trans (hz1 q hq) (by decide)
 have hc15 : SlV (RatP 1000000) 3 H15 (.slice A15 2 c15) [1, 1] := hs15.can_rat hz2
 have h1115 := (hl12.trans hl13).trans (hl14.trans hl15)
 refine vco_callM rfl rfl (Fn.yes (Check_ok (S := ⟨1, S.value, S.x, S.dual, S.ray⟩) (N := 1000000) ((hp11.mono (by decide)).le h1115) hc15 (((CanV.raw hcan).mono (hsz _ (.inr (.inr (.inr rfl))))).le h1115) ((hsx.can_rat fun q hq => hsz q (.inl hq)).le (ratUp _) h1115) ((hsd.can_rat fun q hq => hsz q (.inr (.inl hq))).le (ratUp _) h1115) ((hsr.can_rat fun q hq => hsz q (.inr (.inr (.inl hq)))).le (ratUp _) h1115) hxl (by decide)) hchk1) (fun _ _ h => by first | exact h.le | exact h.1) ?_
 rintro _ H16 ⟨hl16, rfl⟩
 refine vco_run tbOk 2 rfl ?_
 refine vco_k [0] ?_
 refine vc_ret ⟨.inr rfl, _, .tmp rfl (.nil), ?_⟩
 exact ⟨h011.trans (h1115.trans hl16), rfl⟩
end Go.Eng
/- Walks over package amortcostkeep2, part 1: Rat. -/
namespace Go.Eng
open Go.Proofs Num Lp
theorem kRat_ok {H : Heap} {f : Bool} {A1 A2 : Option Addr} {m1 c1 m2 c2 : Nat} :
  Fn Tryz.prog 97 #[.agg #[.bool f, .slice A1 m1 c1, .slice A2 m2 c2]] H (RetE H (.bool (decide (m1 ≤ 2 ∧ m2 ≤ 2)))) := by
 refine fn_intro (args := [_]) Tryz.func97 rfl rfl Tryz.ntmps97 rfl rfl fun w0 => ?_
 refine vc_keep [0] rfl ?_
 refine vc_sr ?_
 refine vco_box rfl rfl ?_
 refine vco_run tbOk 1 rfl ?_
 refine vco_k [1] ?_
 by_cases h1 : m1 ≤ 2
 ·
  skip
  by_cases h2 : m2 ≤ 2
  ·
   skip
   refine vc_sr ?_
   refine vco_run tbOk 3 rfl ?_
   refine vco_cmp true rfl rfl (cle_t (by omega)) ?_
   refine vco_run tbOk 4 rfl ?_
   refine vco_cmp true rfl rfl (cle_t (by omega)) ?_
   refine vco_run tbOk 2 rfl ?_
   refine vco_k [2] ?_
   refine vc_ret ⟨.inr rfl, _, .tmp rfl (.nil), ?_⟩
   exact ⟨rfl, by rw [decide_eq_true ⟨h1, h2⟩]; rfl⟩
  ·
   skip
   refine vc_sr ?_
   refine vco_run tbOk 3 rfl ?_
   refine vco_cmp true rfl rfl (cle_t (by omega)) ?_
   refine vco_run tbOk 4 rfl ?_
   refine vco_cmp false rfl rfl (cle_f (by omega)) ?_
   refine vco_run tbOk 2 rfl ?_
   refine vco_k [2] ?_
   refine vc_ret ⟨.inr rfl, _, .tmp rfl (.nil), ?_⟩
   exact ⟨rfl, by rw [decide_eq_false (fun h => h2 h.2)]; rfl⟩
 ·
  skip
  refine vc_sr ?_
  refine vco_run tbOk 3 rfl ?_
  refine vco_cmp false rfl rfl (cle_f (by omega)) ?_
  refine vco_run tbOk 7 rfl ?_
  refine vco_k [2] ?_
  refine vc_ret ⟨.inr rfl, _, .tmp rfl (.nil), ?_⟩
  exact ⟨rfl, by rw [decide_eq_false (fun h => h1 h.1)]; rfl⟩
end Go.Eng
/- Walks over package amortcostkeep2, part 2: Rats, Lists, Program; package amortcostref22: Valid; package amortcostlaw22: kept, solvable. -/
namespace Go.Eng
open Go.Proofs Num Lp
theorem RawV.small {N : Nat} {H : Heap} {q : Rat} {f : Bool} {A1 A2 : Option Addr} {m1 c1 m2 c2 : Nat} (h : RawV H (.agg #[.bool f, .slice A1 m1 c1, .slice A2 m2 c2]) q N) (h1 : m1 ≤ 2) (h2 : m2 ≤ 2) : RawV H (.agg #[.bool f, .slice A1 m1 c1, .slice A2 m2 c2]) q 2 := by
  obtain ⟨f', u, w, l1, l2, e, k1, k2, k3, k4, k5, k6, k7⟩ := h
  have e' := arr3 (vs := [.bool f, .slice A1 m1 c1, .slice A2 m2 c2]) e
  simp only [List.cons.injEq, and_true] at e'
  obtain ⟨e1, e2, e3⟩ := e'
  refine ⟨f', u, w, l1, l2, e, k1, k2, k3, k4, ?_, ?_, k7⟩
  · obtain ⟨A, c, e4, _⟩ := k1
    rw [e4] at e2
    cases e2; exact h1
  · obtain ⟨A, c, e4, _⟩ := k2
    rw [e4] at e3
    cases e3; exact h2
theorem SlV.seg3 {N : Nat} {H : Heap} {xs : List Value} {l : List Rat} (h : Els (RatP N H) 3 xs l) {i : Nat} {q : Rat} (hq : l[i]? = some q) : ∃ f A1 m1 c1 A2 m2 c2, seg xs i 3 = [.bool f, .slice A1 m1 c1, .slice A2 m2 c2] ∧ RawV H (.agg #[.bool f, .slice A1 m1 c1, .slice A2 m2 c2]) q N ∧ ∀ (j : Nat) (u : Value), [.bool f, .slice A1 m1 c1, .slice A2 m2 c2][j]? = some u → xs[i * 3 + j]? = some u := by
  have h1 := h.at_ i q hq
  obtain ⟨f, A, m, c, A', m', c', e⟩ := RatP.cells h1
  refine ⟨f, A, m, c, A', m', c', e, ?_, fun j u hu => seg_get (by rw [e]; exact hu)⟩
  have h2 : RawV H (.agg (seg xs i 3).toArray) q N := h1
  rwa [e] at h2
/-- Lists of numbers in cells. -/
def Lsts (N : Nat) (H : Heap) (vs : List Value) (ls : List (List Rat)) : Prop := vs.length = ls.length ∧ ∀ (i : Nat) (v : Value) (l : List Rat), vs[i]? = some v → ls[i]? = some l → SlV (RatP N) 3 H v l
theorem lsts_nil (N : Nat) (H : Heap) : Lsts N H [] [] := ⟨rfl, fun i v l h => by simp at h⟩
theorem Lsts.cons {N : Nat} {H : Heap} {v : Value} {l : List Rat} {vs : List Value} {ls : List (List Rat)} (h : SlV (RatP N) 3 H v l) (k : Lsts N H vs ls) : Lsts N H (v :: vs) (l :: ls) :=
  ⟨by simp [k.1], fun i v' l' h1 h2 => by
    cases i with
    | zero => simp only [List.getElem?_cons_zero, Option.some.injEq] at h1 h2; subst h1; subst h2; exact h
    | succ i => exact k.2 i v' l' (by simpa using h1) (by simpa using h2)⟩
theorem Lsts.head {N : Nat} {H : Heap} {v : Value} {l : List Rat} {vs : List Value} {ls : List (List Rat)} (h : Lsts N H (v :: vs) (l :: ls)) : SlV (RatP N) 3 H v l := h.2 0 v l rfl rfl
theorem Lsts.tail {N : Nat} {H : Heap} {v : Value} {l : List Rat} {vs : List Value} {ls : List (List Rat)} (h : Lsts N H (v :: vs) (l :: ls)) : Lsts N H vs ls :=
  ⟨by simpa using h.1, fun i v' l' h1 h2 => h.2 (i + 1) v' l' (by simpa using h1) (by simpa using h2)⟩
theorem row_b {xs : List Value} {k : Nat} {a b c d e : Value} (h : ∀ (j : Nat) (u : Value), [a, b, c, d, e][j]? = some u → xs[k + j]? = some u) : ∀ (q : Nat) (v : Value), [c, d, e][q]? = some v → xs[k + 2 + q]? = some v := fun q v hq => by
  rw [Nat.add_assoc, Nat.add_comm 2 q]; exact h (q + 2) v hq
theorem SlV.segR {N : Nat} {H : Heap} {xs : List Value} {l : List (List Rat × Int × Rat)} (h : Els (RowP N H) 5 xs l) {i : Nat} {r : List Rat × Int × Rat} (hq : l[i]? = some r) : ∃ A0 c0 f A1 m1 c1 A2 m2 c2, seg xs i 5 = [.slice A0 r.1.length c0, .int .i64 r.2.1, .bool f, .slice A1 m1 c1, .slice A2 m2 c2] ∧ SlV (RatP N) 3 H (.slice A0 r.1.length c0) r.1 ∧ RawV H (.agg #[.bool f, .slice A1 m1 c1, .slice A2 m2 c2]) r.2.2 N ∧ ∀ (j : Nat) (u : Value), [.slice A0 r.1.length c0, .int .i64 r.2.1, .bool f, .slice A1 m1 c1, .slice A2 m2 c2][j]? = some u → xs[i * 5 + j]? = some u := by
  have h1 := h.at_ i r hq
  obtain ⟨A0, c0, k, f, A1, m1, c1, A2, m2, c2, e, hk⟩ := h1.cells
  subst hk
  have h2 := h1
  rw [e] at h2
  obtain ⟨c', f', u', w', e', h3, h4⟩ := id h2
  simp only [List.cons.injEq, and_true, true_and] at e'
  obtain ⟨rfl, e1, rfl, rfl⟩ := e'
  exact ⟨A0, c0, f, A1, m1, c1, A2, m2, c2, e, h3, h2.bound, fun j u hu => seg_get (by rw [e]; exact hu)⟩
/-- A program that is small. -/
structure PSml (H : Heap) (v : Value) (p : Prg) (n m : Nat) : Prop where
  prog : ProgV 2 H v p
  cols : p.free.length ≤ n
  rows : p.rows.length ≤ m
  row : ∀ (i : Nat) (r : List Rat × Int × Rat), p.rows[i]? = some r → r.1.length ≤ n
theorem PSml.le {H H' : Heap} {v : Value} {p : Prg} {n m : Nat} (h : PSml H v p n m) (hl : Heap.le H H') : PSml H' v p n m := ⟨h.prog.le hl, h.cols, h.rows, h.row⟩
theorem kRats_ok {H : Heap} {v : Value} {l : List Rat} {N n : Nat} (hv : SlV (RatP N) 3 H v l) (hn : n ≤ 1000) :
  Fn Tryz.prog 96 #[v, .int .i64 (n : Int)] H (fun v' H' => H' = H ∧ ∃ b, v' = .bool b ∧ (b = true → l.length ≤ n ∧ SlV (RatP 2) 3 H v l)) := by
 obtain ⟨A, c, xs, rfl, hlc, hr, hx⟩ := hv
 refine fn_intro (args := [_, _]) Tryz.func96 rfl rfl Tryz.ntmps96 rfl rfl fun w0 => ?_
 refine vc_keep [0, 1] rfl ?_
 refine vc_sr ?_
 refine vco_run tbOk 1 rfl ?_
 refine vco_k [0, 1] ?_
 refine vc_seq ?_
 refine vc_sr ?_
 refine vco_run tbOk 4 rfl ?_
 refine vco_k [0, 9] ?_
 refine vc_cond rfl (fun hb => ?_) (fun hb => ?_)
 ·
  skip
  refine vc_sr ?_
  refine vco_run tbOk 1 rfl ?_
  refine vco_k [4] ?_
  refine vc_ret ⟨.inr rfl, _, .tmp rfl (.nil), ?_⟩
  exact ⟨rfl, false, rfl, fun h => by cases h⟩
 ·
  have hb : l.length ≤ n := by simpa using hb
  refine vc_skip ?_
  refine vc_keep [0] rfl ?_
  refine vc_seq ?_
  refine vc_sr ?_
  refine vco_run tbOk 3 rfl ?_
  refine vco_k [0, 11, 12] ?_
  refine vc_block ?_
  refine vc_loop1 (fun (i : Nat) => l.length - i) (fun (i : Nat) => put (put (put (emp) 0 (.val (.slice A l.length c))) 11 (.val (.int .i64 (l.length : Int)))) 12 (.val (.int .i64 (i : Int)))) (fun (i : Nat) H' => H' = H ∧ (∀ (k : Nat) (q : Rat), k < i → l[k]? = some q → RatP 2 H (seg xs k 3) q) ∧ i ≤ l.length) 0 (⟨rfl, (fun k r h => by omega), Nat.zero_le _⟩) sub_auto ?_
  rintro i H1 ⟨e1, hal, hi⟩
  rw [e1]
  refine vc_sr ?_
  refine vco_run tbOk 1 rfl ?_
  refine vco_k [0, 11, 12, 13] ?_
  refine vc_seq ?_
  refine vc_cond rfl (fun hb => ?_) (fun hb => ?_)
  ·
   have him : i < l.length := by simpa using hb
   obtain ⟨q, hq⟩ : ∃ q, l[i]? = some q := ⟨_, List.getElem?_eq_getElem him⟩
   obtain ⟨f, A1, m1, c1, A2, m2, c2, hsg, hraw, hqx⟩ := SlV.seg3 hx hq
   refine vc_skip ?_
   refine vc_keep [0, 11, 12] rfl ?_
   refine vc_seq ?_
   refine vc_block ?_
   refine vc_sr ?_
   refine vco_run tbOk 2 rfl ?_
   refine vco_k [0, 5, 11, 12] ?_
   refine vc_sr ?_
   refine vco_run tbOk 2 rfl ?_
   refine vco_at_st tbOk rfl rfl rfl rfl (hr) rfl (by decide) (hqx) (by omega) (by omega) fun _ => ?_
   refine vco_call rfl rfl (kRat_ok) ?_
   rintro v2 H2 ⟨e2, rfl⟩
   rw [e2]
   refine vco_run tbOk 1 rfl ?_
   refine vco_k [0, 11, 12, 20] ?_
   refine vc_cond rfl (fun hb => ?_) (fun hb => ?_)
   ·
    skip
    refine vc_sr ?_
    refine vco_run tbOk 1 rfl ?_
    refine vco_k [4] ?_
    refine vc_ret ⟨.inr rfl, _, .tmp rfl (.nil), ?_⟩
    exact ⟨rfl, false, rfl, fun h => by cases h⟩
   ·
    have hs2 : m1 ≤ 2 ∧ m2 ≤ 2 := by simpa using hb
    refine vc_skip ?_
    refine vc_keep [0, 11, 12] rfl ?_
    refine vc_region rfl ?_
    refine vco_add rfl rfl ⟨by omega, by omega⟩ ?_
    refine vco_run tbOk 1 rfl ?_
    refine vco_end ?_
    exact ⟨i + 1, by omega, sub_auto, rfl, (fun k q9 hk hq9 => by by_cases h9 : k < i; exact hal k q9 h9 hq9; (obtain rfl : k = i := by omega); rw [hq] at hq9; cases hq9; show RawV _ _ _ _; rw [hsg]; exact hraw.small hs2.1 hs2.2), by omega⟩
  ·
   have hb : l.length ≤ i := by simpa using hb
   refine vc_exit ?_
   refine vc_keep [] rfl ?_
   refine vc_sr ?_
   refine vco_run tbOk 1 rfl ?_
   refine vco_k [4] ?_
   refine vc_ret ⟨.inr rfl, _, .tmp rfl (.nil), ?_⟩
   exact ⟨rfl, true, rfl, fun _ => ⟨by omega, A, c, xs, rfl, hlc, hr, hx.len, fun k q hq => hal k q (by have h9 := (List.getElem?_eq_some_iff.1 hq).1; omega) hq⟩⟩
theorem kLists_ok {H : Heap} {A : Option Addr} {k c : Nat} {vs : List Value} {ls : List (List Rat)} {N m n : Nat} (hr : Rd H A vs) (hk : k = ls.length) (hv : Lsts N H vs ls) (hn : n ≤ 1000) (hm : m ≤ 1000) :
  Fn Tryz.prog 48 #[.slice A k c, .int .i64 (m : Int), .int .i64 (n : Int)] H (fun v' H' => H' = H ∧ ∃ b, v' = .bool b ∧ (b = true → Lsts 2 H vs ls ∧ ∀ l, l ∈ ls → l.length ≤ n)) := by
 refine fn_intro (args := [_, _, _]) Tryz.func48 rfl rfl Tryz.ntmps48 rfl rfl fun w0 => ?_
 refine vc_keep [0, 1, 2] rfl ?_
 refine vc_sr ?_
 refine vco_run tbOk 1 rfl ?_
 refine vco_k [0, 1, 2] ?_
 refine vc_seq ?_
 refine vc_sr ?_
 refine vco_run tbOk 4 rfl ?_
 refine vco_k [0, 2, 11] ?_
 refine vc_cond rfl (fun hb => ?_) (fun hb => ?_)
 ·
  skip
  refine vc_sr ?_
  refine vco_run tbOk 1 rfl ?_
  refine vco_k [6] ?_
  refine vc_ret ⟨.inr rfl, _, .tmp rfl (.nil), ?_⟩
  exact ⟨rfl, false, rfl, fun h => by cases h⟩
 ·
  have hb : k ≤ m := by simpa using hb
  refine vc_skip ?_
  refine vc_keep [0, 2] rfl ?_
  refine vc_seq ?_
  refine vc_sr ?_
  refine vco_run tbOk 3 rfl ?_
  refine vco_k [0, 2, 13, 14] ?_
  refine vc_block ?_
  refine vc_loop1 (fun (i : Nat) => k - i) (fun (i : Nat) => put (put (put (put (emp) 0 (.val (.slice A k c))) 2 (.val (.int .i64 (n : Int)))) 13 (.val (.int .i64 (k : Int)))) 14 (.val (.int .i64 (i : Int)))) (fun (i : Nat) H' => H' = H ∧ (∀ (j : Nat) (v : Value) (l : List Rat), j < i → vs[j]? = some v → ls[j]? = some l → l.length ≤ n ∧ SlV (RatP 2) 3 H v l) ∧ i ≤ k) 0 (⟨rfl, (fun j v l h => by omega), Nat.zero_le _⟩) sub_auto ?_
  rintro i H1 ⟨e1, hal, hi⟩
  rw [e1]
  refine vc_sr ?_
  refine vco_run tbOk 1 rfl ?_
  refine vco_k [0, 2, 13, 14, 15] ?_
  refine vc_seq ?_
  refine vc_cond rfl (fun hb => ?_) (fun hb => ?_)
  ·
   have him : i < k := by simpa using hb
   obtain ⟨l, hle⟩ : ∃ l, ls[i]? = some l := ⟨_, List.getElem?_eq_getElem (by omega)⟩
   obtain ⟨v, hve⟩ : ∃ v, vs[i]? = some v := ⟨_, List.getElem?_eq_getElem (by rw [hv.1]; omega)⟩
   have hsl := hv.2 i v l hve hle
   obtain ⟨A0, c0, xs0, rfl, h0⟩ := id hsl
   refine vc_skip ?_
   refine vc_keep [0, 2, 13, 14] rfl ?_
   refine vc_seq ?_
   refine vc_block ?_
   refine vc_sr ?_
   refine vco_run tbOk 2 rfl ?_
   refine vco_k [0, 2, 7, 13, 14] ?_
   refine vc_sr ?_
   refine vco_run tbOk 2 rfl ?_
   refine vco_at tbOk rfl rfl rfl rfl rfl (hr) (hve) (by omega) (by omega) fun _ => ?_
   refine vco_run tbOk 1 rfl ?_
   refine vco_call rfl rfl (kRats_ok hsl hn) ?_
   rintro v2 H2 ⟨e2, b2, rfl, hb2⟩
   rw [e2]
   refine vco_run tbOk 1 rfl ?_
   refine vco_k [0, 2, 13, 14, 23] ?_
   refine vc_cond rfl (fun hb => ?_) (fun hb => ?_)
   ·
    skip
    refine vc_sr ?_
    refine vco_run tbOk 1 rfl ?_
    refine vco_k [6] ?_
    refine vc_ret ⟨.inr rfl, _, .tmp rfl (.nil), ?_⟩
    exact ⟨rfl, false, rfl, fun h => by cases h⟩
   ·
    have hbt : b2 = true := by simpa using hb
    refine vc_skip ?_
    refine vc_keep [0, 2, 13, 14] rfl ?_
    refine vc_region rfl ?_
    refine vco_add rfl rfl ⟨by omega, by omega⟩ ?_
    refine vco_run tbOk 1 rfl ?_
    refine vco_end ?_
    exact ⟨i + 1, by omega, sub_auto, rfl, (fun j v9 l9 hj hv9 hl9 => by by_cases h9 : j < i; exact hal j v9 l9 h9 hv9 hl9; (obtain rfl : j = i := by omega); rw [hve] at hv9; rw [hle] at hl9; cases hv9; cases hl9; exact hb2 hbt), by omega⟩
  ·
   have hb : k ≤ i := by simpa using hb
   refine vc_exit ?_
   refine vc_keep [] rfl ?_
   refine vc_sr ?_
   refine vco_run tbOk 1 rfl ?_
   refine vco_k [6] ?_
   refine vc_ret ⟨.inr rfl, _, .tmp rfl (.nil), ?_⟩
   exact ⟨rfl, true, rfl, fun _ => ⟨⟨hv.1, fun j v l h1 h2 => (hal j v l (by have h9 := (List.getElem?_eq_some_iff.1 h2).1; omega) h1 h2).2⟩, fun l hl => by
    obtain ⟨j, hj⟩ := List.getElem?_of_mem hl
    have h9 := (List.getElem?_eq_some_iff.1 hj).1
    exact (hal j _ l (by omega) (List.getElem?_eq_getElem (by rw [hv.1]; omega)) hj).1⟩⟩
theorem kProgram_ok {H : Heap} {v : Value} {p : Prg} {N n m : Nat} (hp : ProgV N H v p) (hn : n ≤ 1000) (hm : m ≤ 1000) :
  Fn Tryz.prog 47 #[v, .int .i64 (n : Int), .int .i64 (m : Int)] H (fun v' H' => H' = H ∧ ∃ b, v' = .bool b ∧ (b = true → PSml H v p n m)) := by
 obtain ⟨fv, rv0, rfl, hfv, hrv0⟩ := id hp
 obtain ⟨Af, cf, xf, rfl, hrF, hxF⟩ := hfv.one
 obtain ⟨Ar, cr, xr, rfl, hcr, hrR, hxR⟩ := hrv0
 refine fn_intro (args := [_, _, _]) Tryz.func47 rfl rfl Tryz.ntmps47 rfl rfl fun w0 => ?_
 refine vc_keep [0, 1, 2] rfl ?_
 refine vc_sr ?_
 refine vco_box rfl rfl ?_
 refine vco_run tbOk 1 rfl ?_
 refine vco_k [1, 2, 3] ?_
 refine vc_seq ?_
 by_cases h1 : (n : Int) < (p.free.length : Int)
 ·
  skip
  refine vc_sr ?_
  refine vco_run tbOk 4 rfl ?_
  refine vco_cmp true rfl rfl (cgt_t h1) ?_
  refine vco_run tbOk 7 rfl ?_
  refine vco_k [1, 3, 19] ?_
  refine vc_cond_t rfl ?_
  refine vc_sr ?_
  refine vco_run tbOk 1 rfl ?_
  refine vco_k [6] ?_
  refine vc_ret ⟨.inr rfl, _, .tmp rfl (.nil), ?_⟩
  exact ⟨rfl, false, rfl, fun h => by cases h⟩
 ·
  skip
  by_cases h2 : (m : Int) < (p.rows.length : Int)
  ·
   skip
   refine vc_sr ?_
   refine vco_run tbOk 4 rfl ?_
   refine vco_cmp false rfl rfl (cgt_f (by omega)) ?_
   refine vco_run tbOk 5 rfl ?_
   refine vco_cmp true rfl rfl (cgt_t h2) ?_
   refine vco_run tbOk 1 rfl ?_
   refine vco_k [1, 3, 19] ?_
   refine vc_cond_t rfl ?_
   refine vc_sr ?_
   refine vco_run tbOk 1 rfl ?_
   refine vco_k [6] ?_
   refine vc_ret ⟨.inr rfl, _, .tmp rfl (.nil), ?_⟩
   exact ⟨rfl, false, rfl, fun h => by cases h⟩
  ·
   skip
   refine vc_sr ?_
   refine vco_run tbOk 4 rfl ?_
   refine vco_cmp false rfl rfl (cgt_f (by omega)) ?_
   refine vco_run tbOk 5 rfl ?_
   refine vco_cmp false rfl rfl (cgt_f (by omega)) ?_
   refine vco_run tbOk 1 rfl ?_
   refine vco_k [1, 3, 19] ?_
   refine vc_cond_f rfl ?_
   refine vc_skip ?_
   refine vc_keep [1, 3] rfl ?_
   refine vc_seq ?_
   refine vc_sr ?_
   refine vco_run tbOk 4 rfl ?_
   refine vco_k [1, 3, 22, 23] ?_
   refine vc_block ?_
   refine vc_loop1 (fun (i : Nat) => p.rows.length - i) (fun (i : Nat) => put (put (put (put (emp) 1 (.val (.int .i64 (n : Int)))) 3 (.box [.slice Af p.free.length cf, .slice Ar p.rows.length cr])) 22 (.val (.int .i64 (p.rows.length : Int)))) 23 (.val (.int .i64 (i : Int)))) (fun (i : Nat) H' => H' = H ∧ (∀ (k : Nat) (r : List Rat × Int × Rat), k < i → p.rows[k]? = some r → r.1.length ≤ n ∧ RowP 2 H (seg xr k 5) r) ∧ i ≤ p.rows.length) 0 (⟨rfl, (fun k r h => by omega), Nat.zero_le _⟩) sub_auto ?_
   rintro i H1 ⟨e1, hal, hi⟩
   rw [e1]
   refine vc_sr ?_
   refine vco_run tbOk 1 rfl ?_
   refine vco_k [1, 3, 22, 23, 24] ?_
   refine vc_seq ?_
   refine vc_cond rfl (fun hb => ?_) (fun hb => ?_)
   ·
    have him : i < p.rows.length := by simpa using hb
    obtain ⟨r, hr⟩ : ∃ r, p.rows[i]? = some r := ⟨_, List.getElem?_eq_getElem him⟩
    obtain ⟨A0, c0, f, A1, m1, c1, A2, m2, c2, hsg, hsl, hraw, hrx⟩ := SlV.segR hxR hr
    refine vc_skip ?_
    refine vc_keep [1, 3, 22, 23] rfl ?_
    refine vc_seq ?_
    refine vc_block ?_
    refine vc_sr ?_
    refine vco_run tbOk 2 rfl ?_
    refine vco_k [1, 3, 7, 22, 23] ?_
    refine vc_sr ?_
    refine vco_run tbOk 3 rfl ?_
    refine vco_atf tbOk rfl rfl rfl rfl rfl rfl rfl (hrR) (hrx 0 _ rfl) (by omega) (by omega) fun _ _ => ?_
    refine vco_run tbOk 1 rfl ?_
    refine vco_call rfl rfl (kRats_ok hsl hn) ?_
    rintro v2 H2 ⟨e2, b2, rfl, hb2⟩
    rw [e2]
    cases b2
    ·
     skip
     refine vco_run tbOk 11 rfl ?_
     refine vco_k [1, 3, 22, 23, 44] ?_
     refine vc_cond_t rfl ?_
     refine vc_sr ?_
     refine vco_run tbOk 1 rfl ?_
     refine vco_k [6] ?_
     refine vc_ret ⟨.inr rfl, _, .tmp rfl (.nil), ?_⟩
     exact ⟨rfl, false, rfl, fun h => by cases h⟩
    ·
     skip
     refine vco_run tbOk 5 rfl ?_
     refine vco_atf_st tbOk rfl rfl rfl rfl rfl rfl (hrR) rfl (by decide) (row_b hrx) (by omega) (by omega) fun _ _ => ?_
     refine vco_call rfl rfl (kRat_ok) ?_
     rintro v3 H3 ⟨e3, rfl⟩
     rw [e3]
     refine vco_run tbOk 2 rfl ?_
     refine vco_k [1, 3, 22, 23, 44] ?_
     refine vc_cond rfl (fun hb => ?_) (fun hb => ?_)
     ·
      skip
      refine vc_sr ?_
      refine vco_run tbOk 1 rfl ?_
      refine vco_k [6] ?_
      refine vc_ret ⟨.inr rfl, _, .tmp rfl (.nil), ?_⟩
      exact ⟨rfl, false, rfl, fun h => by cases h⟩
     ·
      have h3 : m1 ≤ 2 ∧ m2 ≤ 2 := by simpa using hb
      refine vc_skip ?_
      refine vc_keep [1, 3, 22, 23] rfl ?_
      refine vc_region rfl ?_
      refine vco_add rfl rfl ⟨by omega, by omega⟩ ?_
      refine vco_run tbOk 1 rfl ?_
      refine vco_end ?_
      exact ⟨i + 1, by omega, sub_auto, rfl, (fun k r9 hk hr9 => by by_cases h9 : k < i; exact hal k r9 h9 hr9; (obtain rfl : k = i := by omega); rw [hr] at hr9; cases hr9; exact ⟨(hb2 rfl).1, _, _, _, _, hsg, (hb2 rfl).2, hraw.small h3.1 h3.2⟩), by omega⟩
   ·
    have hb : p.rows.length ≤ i := by simpa using hb
    refine vc_exit ?_
    refine vc_keep [] rfl ?_
    refine vc_sr ?_
    refine vco_run tbOk 1 rfl ?_
    refine vco_k [6] ?_
    refine vc_ret ⟨.inr rfl, _, .tmp rfl (.nil), ?_⟩
    exact ⟨rfl, true, rfl, fun _ => ⟨⟨_, _, rfl, hfv, Ar, cr, xr, rfl, hcr, hrR, hxR.len, fun k r hr => (hal k r (by have h9 := (List.getElem?_eq_some_iff.1 hr).1; omega) hr).2⟩, by omega, by omega, fun k r hr => (hal k r (by have h9 := (List.getElem?_eq_some_iff.1 hr).1; omega) hr).1⟩⟩
end Go.Eng
/- Walks over package amortcostref22: Valid; package amortcostlaw22, part 2: kept, solvable. -/
namespace Go.Eng
open Go.Proofs Num Lp
theorem rValid_ok {H : Heap} {v : Value} {p : Prg} {N : Nat} (hp : ProgV N H v p) :
  Fn Tryz.prog 24 #[v] H (fun v H' => H' = H ∧ ∃ b, v = .bool b ∧ (b = true ↔ p.Ok)) := by
 obtain ⟨fv, rv0, rfl, hfv, hrv0⟩ := hp
 obtain ⟨Af, cf, xf, rfl, hrF, hxF⟩ := hfv.one
 obtain ⟨Ar, cr, xr, rfl, hrR, hxR⟩ := hrv0.row
 refine fn_intro (args := [_]) Tryz.func24 rfl rfl Tryz.ntmps24 rfl rfl fun w0 => ?_
 refine vc_keep [0] rfl ?_
 refine vc_sr ?_
 refine vco_box rfl rfl ?_
 refine vco_run tbOk 1 rfl ?_
 refine vco_k [1] ?_
 refine vc_seq ?_
 by_cases h1 : 400 < (p.free.length : Int)
 ·
  skip
  refine vc_sr ?_
  refine vco_run tbOk 3 rfl ?_
  refine vco_cmp true rfl rfl (cgt_t h1) ?_
  refine vco_run tbOk 6 rfl ?_
  refine vco_k [1, 14] ?_
  refine vc_cond_t rfl ?_
  refine vc_sr ?_
  refine vco_run tbOk 1 rfl ?_
  refine vco_k [2] ?_
  refine vc_ret ⟨.inr rfl, _, .tmp rfl (.nil), ?_⟩
  exact ⟨rfl, false, rfl, ⟨(fun h => by cases h), (fun h => by have h8 := h.cols; have h9 := h.rows; omega)⟩⟩
 ·
  skip
  by_cases h2 : 800 < (p.rows.length : Int)
  ·
   skip
   refine vc_sr ?_
   refine vco_run tbOk 3 rfl ?_
   refine vco_cmp false rfl rfl (cgt_f (by omega)) ?_
   refine vco_run tbOk 4 rfl ?_
   refine vco_cmp true rfl rfl (cgt_t h2) ?_
   refine vco_run tbOk 1 rfl ?_
   refine vco_k [1, 14] ?_
   refine vc_cond_t rfl ?_
   refine vc_sr ?_
   refine vco_run tbOk 1 rfl ?_
   refine vco_k [2] ?_
   refine vc_ret ⟨.inr rfl, _, .tmp rfl (.nil), ?_⟩
   exact ⟨rfl, false, rfl, ⟨(fun h => by cases h), (fun h => by have h8 := h.cols; have h9 := h.rows; omega)⟩⟩
  ·
   skip
   refine vc_sr ?_
   refine vco_run tbOk 3 rfl ?_
   refine vco_cmp false rfl rfl (cgt_f (by omega)) ?_
   refine vco_run tbOk 4 rfl ?_
   refine vco_cmp false rfl rfl (cgt_f (by omega)) ?_
   refine vco_run tbOk 1 rfl ?_
   refine vco_k [1, 14] ?_
   refine vc_cond_f rfl ?_
   refine vc_skip ?_
   refine vc_keep [1] rfl ?_
   refine vc_seq ?_
   refine vc_sr ?_
   refine vco_run tbOk 4 rfl ?_
   refine vco_k [1, 17, 18] ?_
   refine vc_block ?_
   refine vc_loop1 (fun (i : Nat) => p.rows.length - i) (fun (i : Nat) => put (put (put (emp) 1 (.box [.slice Af p.free.length cf, .slice Ar p.rows.length cr])) 17 (.val (.int .i64 (p.rows.length : Int)))) 18 (.val (.int .i64 (i : Int)))) (fun (i : Nat) H' => H' = H ∧ (∀ (k : Nat) (r : List Rat × Int × Rat), k < i → p.rows[k]? = some r → RowOk p.free.length r) ∧ i ≤ p.rows.length) 0 (⟨rfl, (fun k r h => by omega), Nat.zero_le _⟩) sub_auto ?_
   rintro i H1 ⟨e1, hal, hi⟩
   rw [e1]
   refine vc_sr ?_
   refine vco_run tbOk 1 rfl ?_
   refine vco_k [1, 17, 18, 19] ?_
   refine vc_seq ?_
   refine vc_cond rfl (fun hb => ?_) (fun hb => ?_)
   ·
    have him : i < p.rows.length := by simpa using hb
    obtain ⟨r, hr⟩ : ∃ r, p.rows[i]? = some r := ⟨_, List.getElem?_eq_getElem him⟩
    obtain ⟨A0, c0, f, A1, m1, c1, A2, m2, c2, hrp, hrx⟩ := hxR i r hr
    refine vc_skip ?_
    refine vc_keep [1, 17, 18] rfl ?_
    refine vc_seq ?_
    refine vc_block ?_
    refine vc_sr ?_
    refine vco_run tbOk 2 rfl ?_
    refine vco_k [1, 3, 17, 18] ?_
    refine vc_sr ?_
    refine vco_run tbOk 3 rfl ?_
    refine vco_at_st (vs := [.slice A0 r.1.length c0, .int .i64 r.2.1, .bool f, .slice A1 m1 c1, .slice A2 m2 c2]) tbOk rfl rfl rfl rfl hrR rfl (by decide) hrx (by omega) (by omega) fun _ => ?_
    refine vco_alloc el46 rfl ?_
    obtain ⟨ti, hti, htz⟩ := sz46; refine vco_bstore (.inl ⟨rfl, rfl⟩) rfl rfl rfl hti htz rfl rfl rfl ?_
    refine vco_k [1, 4, 17, 18] ?_
    by_cases h1 : r.1.length = p.free.length
    ·
     skip
     by_cases h2 : r.2.1 < 1
     ·
      skip
      refine vc_sr ?_
      refine vco_run tbOk 6 rfl ?_
      refine vco_cmp false rfl rfl (cne_f (by omega)) ?_
      refine vco_run tbOk 3 rfl ?_
      refine vco_cmp true rfl rfl (clt_t h2) ?_
      refine vco_run tbOk 6 rfl ?_
      refine vco_k [1, 17, 18, 42] ?_
      refine vc_cond_t rfl ?_
      refine vc_sr ?_
      refine vco_run tbOk 1 rfl ?_
      refine vco_k [2] ?_
      refine vc_ret ⟨.inr rfl, _, .tmp rfl (.nil), ?_⟩
      exact ⟨rfl, false, rfl, ⟨(fun h => by cases h), (fun h => by have h9 := (h.row i r hr).2; omega)⟩⟩
     ·
      skip
      by_cases h3 : 3 < r.2.1
      ·
       skip
       refine vc_sr ?_
       refine vco_run tbOk 6 rfl ?_
       refine vco_cmp false rfl rfl (cne_f (by omega)) ?_
       refine vco_run tbOk 3 rfl ?_
       refine vco_cmp false rfl rfl (clt_f (by omega)) ?_
       refine vco_run tbOk 4 rfl ?_
       refine vco_cmp true rfl rfl (cgt_t h3) ?_
       refine vco_run tbOk 1 rfl ?_
       refine vco_k [1, 17, 18, 42] ?_
       refine vc_cond_t rfl ?_
       refine vc_sr ?_
       refine vco_run tbOk 1 rfl ?_
       refine vco_k [2] ?_
       refine vc_ret ⟨.inr rfl, _, .tmp rfl (.nil), ?_⟩
       exact ⟨rfl, false, rfl, ⟨(fun h => by cases h), (fun h => by have h9 := (h.row i r hr).2; omega)⟩⟩
      ·
       skip
       refine vc_sr ?_
       refine vco_run tbOk 6 rfl ?_
       refine vco_cmp false rfl rfl (cne_f (by omega)) ?_
       refine vco_run tbOk 3 rfl ?_
       refine vco_cmp false rfl rfl (clt_f (by omega)) ?_
       refine vco_run tbOk 4 rfl ?_
       refine vco_cmp false rfl rfl (cgt_f (by omega)) ?_
       refine vco_run tbOk 1 rfl ?_
       refine vco_k [1, 17, 18, 42] ?_
       refine vc_cond_f rfl ?_
       refine vc_skip ?_
       refine vc_keep [1, 17, 18] rfl ?_
       refine vc_region rfl ?_
       refine vco_add rfl rfl ⟨by omega, by omega⟩ ?_
       refine vco_run tbOk 1 rfl ?_
       refine vco_end ?_
       exact ⟨i + 1, by omega, sub_auto, rfl, (fun k r9 hk hr9 => by by_cases h9 : k < i; exact hal k r9 h9 hr9; (obtain rfl : k = i := by omega); rw [hr] at hr9; cases hr9; exact ⟨by omega, by omega⟩), by omega⟩
    ·
     skip
     refine vc_sr ?_
     refine vco_run tbOk 6 rfl ?_
     refine vco_cmp true rfl rfl (cne_t (by omega)) ?_
     refine vco_run tbOk 10 rfl ?_
     refine vco_k [1, 17, 18, 42] ?_
     refine vc_cond_t rfl ?_
     refine vc_sr ?_
     refine vco_run tbOk 1 rfl ?_
     refine vco_k [2] ?_
     refine vc_ret ⟨.inr rfl, _, .tmp rfl (.nil), ?_⟩
     exact ⟨rfl, false, rfl, ⟨(fun h => by cases h), (fun h => by have h9 := (h.row i r hr).1; omega)⟩⟩
   ·
    have hb : p.rows.length ≤ i := by simpa using hb
    refine vc_exit ?_
    refine vc_keep [] rfl ?_
    refine vc_sr ?_
    refine vco_run tbOk 1 rfl ?_
    refine vco_k [2] ?_
    refine vc_ret ⟨.inr rfl, _, .tmp rfl (.nil), ?_⟩
    exact ⟨rfl, true, rfl, ⟨fun _ => ⟨by omega, by omega, fun k r hr => hal k r (by have h9 := (List.getElem?_eq_some_iff.1 hr).1; omega) hr⟩, fun _ => rfl⟩⟩
theorem kept_ok {H : Heap} {v : Value} {p : Prg} {N : Nat} {A : Option Addr} {k c : Nat} {vs : List Value} {ls : List (List Rat)} (hp : ProgV N H v p) (hr : Rd H A vs) (hk : k = ls.length) (hv : Lsts N H vs ls) :
  Fn Tryz.prog 16 #[v, .slice A k c] H (fun v' H' => H' = H ∧ ∃ b, v' = .bool b ∧ (b = true → PSml H v p 5 6 ∧ Lsts 2 H vs ls ∧ ∀ l, l ∈ ls → l.length ≤ 6)) := by
 obtain ⟨fv, rv0, rfl, hfv, hrv0⟩ := id hp
 obtain ⟨Af, cf, xf, rfl, hrF, hxF⟩ := hfv.one
 obtain ⟨Ar, cr, xr, rfl, hrR, hxR⟩ := hrv0.row
 refine fn_intro (args := [_, _]) Tryz.func16 rfl rfl Tryz.ntmps16 rfl rfl fun w0 => ?_
 refine vc_keep [0, 1] rfl ?_
 refine vc_sr ?_
 refine vco_box rfl rfl ?_
 refine vco_run tbOk 1 rfl ?_
 refine vco_k [1, 2] ?_
 refine vc_sr ?_
 refine vco_run tbOk 1 rfl ?_
 refine vco_call rfl rfl (kProgram_ok (n := 5) (m := 6) hp (by omega) (by omega)) ?_
 rintro v2 H2 ⟨e2, b2, rfl, hb2⟩
 rw [e2]
 cases b2
 ·
  skip
  refine vco_run tbOk 5 rfl ?_
  refine vco_k [4] ?_
  refine vc_ret ⟨.inr rfl, _, .tmp rfl (.nil), ?_⟩
  exact ⟨rfl, false, rfl, fun h => by cases h⟩
 ·
  skip
  refine vco_run tbOk 2 rfl ?_
  refine vco_call rfl rfl (kLists_ok (m := 6) (n := 6) hr hk hv (by omega) (by omega)) ?_
  rintro v3 H3 ⟨e3, b3, rfl, hb3⟩
  rw [e3]
  refine vco_run tbOk 2 rfl ?_
  refine vco_k [4] ?_
  refine vc_ret ⟨.inr rfl, _, .tmp rfl (.nil), ?_⟩
  exact ⟨rfl, b3, rfl, fun h => ⟨hb2 rfl, hb3 h⟩⟩
/-- A program that is small and valid, with a vector of it. -/
structure Slv (H : Heap) (v cv : Value) (p : Prg) (c : List Rat) : Prop where
  sml : PSml H v p 5 6
  vec : SlV (RatP 2) 3 H cv c
  ok : p.Ok
  len : c.length = p.free.length
theorem Slv.le {H H' : Heap} {v cv : Value} {p : Prg} {c : List Rat} (h : Slv H v cv p c) (hl : Heap.le H H') : Slv H' v cv p c := ⟨h.sml.le hl, h.vec.le (ratUp 2) hl, h.ok, h.len⟩
theorem solvable_ok {H : Heap} {v cv : Value} {p : Prg} {c : List Rat} {N : Nat} (hp : ProgV N H v p) (hc : SlV (RatP N) 3 H cv c) :
  Fn Tryz.prog 26 #[v, cv] H (fun v' H' => Heap.le H H' ∧ ∃ b, v' = .bool b ∧ (b = true → Slv H' v cv p c)) := by
 obtain ⟨fv, rv0, rfl, hfv, hrv0⟩ := id hp
 obtain ⟨Af, cf, xf, rfl, hrF, hxF⟩ := hfv.one
 obtain ⟨Ar, cr, xr, rfl, hrR, hxR⟩ := hrv0.row
 obtain ⟨Ac, cc, xc, rfl, hcc, hrc, hec⟩ := id hc
 refine fn_intro (args := [_, _]) Tryz.func26 rfl rfl Tryz.ntmps26 rfl rfl fun w0 => ?_
 refine vc_keep [0, 1] rfl ?_
 refine vc_sr ?_
 refine vco_box rfl rfl ?_
 refine vco_run tbOk 1 rfl ?_
 refine vco_k [1, 2] ?_
 refine vc_sr ?_
 refine vco_run tbOk 2 rfl ?_
 refine vco_build Tryz.underlying66 el26 rfl rfl rfl rfl rfl rfl rfl ?_
 intro gb hgb
 have hle := Heap.le_ins (whole (cellsL [.slice Ac c.length cc]) 26) hgb
 refine vco_call rfl rfl (kept_ok (N := N) (vs := [.slice Ac c.length cc]) (ls := [c]) (hp.le hle) (rd_ins _ _ _ _ _ _) rfl (.cons (hc.le (ratUp N) hle) (lsts_nil _ _))) ?_
 rintro v2 H2 ⟨e2, b2, rfl, hb2⟩
 rw [e2]
 cases b2
 ·
  skip
  refine vco_run tbOk 13 rfl ?_
  refine vco_k [4] ?_
  refine vc_ret ⟨.inr rfl, _, .tmp rfl (.nil), ?_⟩
  exact ⟨hle, false, rfl, fun h => by cases h⟩
 ·
  skip
  refine vco_run tbOk 2 rfl ?_
  refine vco_call rfl rfl (rValid_ok (hp.le hle)) ?_
  rintro v3 H3 ⟨e3, b3, rfl, hb3⟩
  rw [e3]
  cases b3
  ·
   skip
   refine vco_run tbOk 10 rfl ?_
   refine vco_k [4] ?_
   refine vc_ret ⟨.inr rfl, _, .tmp rfl (.nil), ?_⟩
   exact ⟨hle, false, rfl, fun h => by cases h⟩
  ·
   skip
   refine vco_run tbOk 10 rfl ?_
   refine vco_k [4] ?_
   refine vc_ret ⟨.inr rfl, _, .tmp rfl (.nil), ?_⟩
   exact ⟨hle, _, rfl, fun h => ⟨(hb2 rfl).1, (hb2 rfl).2.1.head, hb3.1 rfl, by simpa [Int.natCast_inj] using h⟩⟩
end Go.Eng
/- What Minimize gives for small programs. -/
namespace Go.Eng
open Go.Proofs Num Lp
theorem log_sz {x s : Nat} (h : x < B ^ s) : x.log2 ≤ 30 * s := by
  by_cases h0 : x = 0
  · subst h0; simp
  · have h1 : x < 2 ^ (30 * s) := by
      refine Nat.lt_of_lt_of_le h ?_
      rw [Nat.pow_mul]
      exact Nat.pow_le_pow_left (by decide) s
    have := (Nat.log2_lt h0).2 h1
    omega
theorem wt_sz {q : Rat} {s : Nat} (h : szQ q ≤ s) : Tab.wt q ≤ 60 * s + 2 := by
  obtain ⟨h1, h2⟩ := szQ_le.1 h
  have := log_sz h1
  have := log_sz h2
  unfold Tab.wt; omega
theorem wts_len {k : Nat} : ∀ {l : List Rat}, (∀ q, q ∈ l → Tab.wt q ≤ k) → Tab.wts l ≤ l.length * k
  | [], _ => Nat.zero_le _
  | q :: l, h => by
    have h1 := h q (List.mem_cons_self ..)
    have h2 := wts_len (l := l) fun r hr => h r (List.mem_cons_of_mem _ hr)
    simp only [Tab.wts, List.length_cons, Nat.add_mul]; omega
/-- The numbers of a program and a vector. -/
def nums (p : Prg) (c : List Rat) : List Rat := 0 :: (p.rows.flatMap (fun r => r.2.2 :: r.1) ++ c)
theorem fn_nums {l : List Rat} {k : List Rat} (h : ∀ q, q ∈ l → q ∈ k) (h0 : 0 ∈ k) (j : Nat) : fn l j ∈ k := by
  by_cases hj : j < l.length
  · rw [fn_get (List.getElem?_eq_getElem hj)]; exact h _ (List.getElem_mem hj)
  · rw [fn_out (by omega)]; exact h0
theorem nums_row {p : Prg} {c : List Rat} {i : Nat} (hi : i < p.rows.length) : (∀ q, q ∈ (p.row i).1 → q ∈ nums p c) ∧ (p.row i).2.2 ∈ nums p c := by
  rw [Prg.row_get (List.getElem?_eq_getElem hi)]
  have hm : p.rows[i] ∈ p.rows := List.getElem_mem hi
  refine ⟨fun q hq => ?_, ?_⟩
  · exact List.mem_cons_of_mem _ (List.mem_append_left _ (List.mem_flatMap.2 ⟨_, hm, List.mem_cons_of_mem _ hq⟩))
  · exact List.mem_cons_of_mem _ (List.mem_append_left _ (List.mem_flatMap.2 ⟨_, hm, List.mem_cons_self ..⟩))
theorem nums_in (p : Prg) (c : List Rat) : In (nums p c) p := fun i hi j _ => fn_nums (nums_row hi).1 (List.mem_cons_self ..) j
theorem nums_c (p : Prg) (c : List Rat) : ∀ j, j < p.lp.n → fn c j ∈ nums p c := fun j _ => fn_nums (fun q hq => List.mem_cons_of_mem _ (List.mem_append_right _ hq)) (List.mem_cons_self ..) j
theorem flat_len {k : Nat} : ∀ {l : List (List Rat × Int × Rat)}, (∀ r, r ∈ l → r.1.length ≤ k) → (l.flatMap (fun r => r.2.2 :: r.1)).length ≤ l.length * (k + 1)
  | [], _ => Nat.zero_le _
  | r :: l, h => by
    have h1 := h r (List.mem_cons_self ..)
    have h2 := flat_len (l := l) fun r hr => h r (List.mem_cons_of_mem _ hr)
    simp only [List.flatMap_cons, List.length_append, List.length_cons, Nat.add_mul] at *; omega
/-- A program of few and short numbers. -/
structure Few (N : Nat) (H : Heap) (v cv : Value) (p : Prg) (c : List Rat) : Prop where
  prog : ProgV N H v p
  vec : SlV (RatP N) 3 H cv c
  big : N ≤ 20
  cols : c.length ≤ 7
  rows : p.rows.length ≤ 7
  row : ∀ r, r ∈ p.rows → r.1.length ≤ 7
theorem ProgV.rsize {N : Nat} {H : Heap} {v : Value} {p : Prg} (h : ProgV N H v p) : ∀ r, r ∈ p.rows → (∀ q, q ∈ r.1 → szQ q ≤ N + 2) ∧ szQ r.2.2 ≤ N + 2 := fun r hr => by
  obtain ⟨fv, rv, _, _, h3⟩ := h
  obtain ⟨A, c, xs, _, _, _, h4⟩ := h3
  obtain ⟨i, hi⟩ := List.getElem?_of_mem hr
  obtain ⟨c', f, u, w, _, k2, k3⟩ := h4.at_ i r hi
  exact ⟨k2.rsize, RawV.size k3⟩
theorem Few.bits {N : Nat} {H : Heap} {v cv : Value} {p : Prg} {c : List Rat} (h : Few N H v cv p c) : bits (nums p c) p.lp.m p.lp.m (2 * Tab.wts (nums p c)) ≤ 49999998 := by
  have hb := h.big
  have h1 : ∀ q, q ∈ nums p c → Tab.wt q ≤ 1322 := fun q hq => by
    have h2 : szQ q ≤ 22 := by
      rcases List.mem_cons.1 hq with rfl | hq
      · decide
      · rcases List.mem_append.1 hq with hq | hq
        · obtain ⟨r, hr, hq⟩ := List.mem_flatMap.1 hq
          obtain ⟨k1, k2⟩ := h.prog.rsize r hr
          rcases List.mem_cons.1 hq with rfl | hq
          · omega
          · have := k1 q hq; omega
        · have := h.vec.rsize q hq; omega
    have := wt_sz h2; omega
  have h2 := wts_len h1
  have h3 := flat_len h.row
  have h4 : (nums p c).length ≤ 64 := by
    have := h.rows
    have := h.cols
    simp only [nums, List.length_cons, List.length_append]; omega
  have h5 : Tab.wts (nums p c) ≤ 64 * 1322 := Nat.le_trans h2 (Nat.mul_le_mul_right _ h4)
  have h6 : p.lp.m ≤ 7 := h.rows
  unfold Eng.bits bitE
  have h7 := Nat.mul_le_mul (Nat.pow_le_pow_right (n := 2) (by decide) h6) (show 4 * Tab.wts (nums p c) + p.lp.m + 1 ≤ 4 * (64 * 1322) + 7 + 1 by omega)
  have h8 : 2 ^ 7 * (4 * (64 * 1322) + 7 + 1) = 43320320 := by decide
  omega
abbrev MX : Nat := 100000000
/-- A result, its cells written out. -/
def SolR (H : Heap) (s : Value) (S : Soln) : Prop := ∃ f A1 m1 c1 A2 m2 c2 Ax kx cx Ad kd cd Ar kr cr, s = .agg #[.int .i64 S.status, .bool f, .slice A1 m1 c1, .slice A2 m2 c2, .slice Ax kx cx, .slice Ad kd cd, .slice Ar kr cr] ∧ RawV H (.agg #[.bool f, .slice A1 m1 c1, .slice A2 m2 c2]) S.value MX ∧ SlV (RatP MX) 3 H (.slice Ax kx cx) S.x ∧ SlV (RatP MX) 3 H (.slice Ad kd cd) S.dual ∧ SlV (RatP MX) 3 H (.slice Ar kr cr) S.ray
theorem rawV_zero {H : Heap} {N : Nat} : RawV H (.agg #[.bool false, .slice none 0 0, .slice none 0 0]) 0 N :=
  ⟨false, _, _, [], [], rfl, ⟨none, 0, rfl, Nat.le_refl _, Rd.nil _ _⟩, ⟨none, 0, rfl, Nat.le_refl _, Rd.nil _ _⟩, (fun x h => by cases h), (fun x h => by cases h), Nat.zero_le _, Nat.zero_le _, by decide⟩
theorem SolV.r {H : Heap} {s : Value} {S : Soln} (h : SolV H s S) (hz : SolZ MX S) : SolR H s S := by
  obtain ⟨f, u, w, xv, dv, rv, rfl, h4, h5, h6, h7⟩ := h
  obtain ⟨Ax, cx, _, rfl, _⟩ := id h5
  obtain ⟨Ad, cd, _, rfl, _⟩ := id h6
  obtain ⟨Ar, cr, _, rfl, _⟩ := id h7
  have hx := h5.can_rat fun q hq => hz q (.inl hq)
  have hd := h6.can_rat fun q hq => hz q (.inr (.inl hq))
  have hr := h7.can_rat fun q hq => hz q (.inr (.inr (.inl hq)))
  rcases h4 with h4 | ⟨h4, rfl, rfl, rfl⟩
  · obtain ⟨u', w', e, hu, hw⟩ := id h4
    have e' := arr3 (vs := [.bool f, u, w]) e
    simp only [List.cons.injEq, and_true] at e'
    obtain ⟨_, rfl, rfl⟩ := e'
    obtain ⟨A1, c1, rfl, _⟩ := id hu
    obtain ⟨A2, c2, rfl, _⟩ := id hw
    exact ⟨_, _, _, _, _, _, _, _, _, _, _, _, _, _, _, _, rfl, (CanV.raw h4).mono (hz _ (.inr (.inr (.inr rfl)))), hx, hd, hr⟩
  · exact ⟨_, _, _, _, _, _, _, _, _, _, _, _, _, _, _, _, rfl, by rw [h4]; exact rawV_zero, hx, hd, hr⟩
/-- What Minimize gives. -/
def MinR (p : Prg) (c : List Rat) (H : Heap) (v : Value) (H' : Heap) : Prop := Heap.le H H' ∧ ∃ s e, v = .tuple #[s, .int .i64 e] ∧
  ((¬ p.Ok ∧ e = 1 ∧ s = sol0) ∨ (p.Ok ∧ c.length ≠ p.free.length ∧ e = 21 ∧ s = sol0) ∨ (p.Ok ∧ c.length = p.free.length ∧ e = 0 ∧ ∃ S, SolR H' s S ∧ Chk p c S))
theorem minR_ok {N : Nat} {H : Heap} {v cv : Value} {p : Prg} {c : List Rat} (h : Few N H v cv p c) : Fn Tryz.prog 23 #[v, cv] H (MinR p c H) := by
  have hb := h.bits
  have h1 := h.cols
  have h2 := h.big
  refine (Minimize_ok h.prog h.vec (fit_all (nums_in p c) (nums_c p c) fun i hi => (nums_row hi).2) (by omega) (by omega) (by omega)).mono ?_
  rintro v' H' ⟨hl, s, e, rfl, h3⟩
  refine ⟨hl, s, e, rfl, ?_⟩
  rcases h3 with h3 | h3 | ⟨k1, k2, k3, S, k4, k5, k6, _⟩
  · exact .inl h3
  · exact .inr (.inl h3)
  · exact .inr (.inr ⟨k1, k2, k3, S, k4.r fun q hq => Nat.le_trans (k6 q hq) (by show _ ≤ 100000000; omega), k5⟩)
/-- .. for a valid program and a vector of it. -/
def MinS (p : Prg) (c : List Rat) (H : Heap) (v : Value) (H' : Heap) : Prop := Heap.le H H' ∧ ∃ S f A1 m1 c1 A2 m2 c2 Ax kx cx Ad kd cd Ar kr cr, v = .tuple #[.agg #[.int .i64 S.status, .bool f, .slice A1 m1 c1, .slice A2 m2 c2, .slice Ax kx cx, .slice Ad kd cd, .slice Ar kr cr], .int .i64 0] ∧ Chk p c S ∧ RawV H' (.agg #[.bool f, .slice A1 m1 c1, .slice A2 m2 c2]) S.value MX ∧ SlV (RatP MX) 3 H' (.slice Ax kx cx) S.x ∧ SlV (RatP MX) 3 H' (.slice Ad kd cd) S.dual ∧ SlV (RatP MX) 3 H' (.slice Ar kr cr) S.ray
theorem minS_ok {N : Nat} {H : Heap} {v cv : Value} {p : Prg} {c : List Rat} (h : Few N H v cv p c) (hok : p.Ok) (hlen : c.length = p.free.length) : Fn Tryz.prog 23 #[v, cv] H (MinS p c H) :=
  (minR_ok h).mono fun v' H' ⟨hl, s, e, h1, h2⟩ => by
    rcases h2 with h2 | h2 | ⟨_, _, rfl, S, ⟨f, A1, m1, c1, A2, m2, c2, Ax, kx, cx, Ad, kd, cd, Ar, kr, cr, rfl, h3⟩, h4⟩
    · exact absurd hok h2.1
    · exact absurd hlen h2.2.1
    · exact ⟨hl, S, f, A1, m1, c1, A2, m2, c2, Ax, kx, cx, Ad, kd, cd, Ar, kr, cr, h1, h4, h3⟩
theorem MinS.le {p : Prg} {c : List Rat} {H : Heap} {v : Value} {H' : Heap} (h : MinS p c H v H') : Heap.le H H' := h.1
theorem Slv.few {H : Heap} {v cv : Value} {p : Prg} {c : List Rat} (h : Slv H v cv p c) : Few 2 H v cv p c :=
  ⟨h.sml.prog, h.vec, by decide, by have := h.len; have := h.sml.cols; omega, by have := h.sml.rows; omega, fun r hr => by
    obtain ⟨i, hi⟩ := List.getElem?_of_mem hr
    have := h.sml.row i r hi; omega⟩
/-- Results of two programs whose values correspond. -/
theorem sem_map {p q : LP} {c d : Nat → Rat} {s t : Int} {v w : Rat} (g : Rat → Rat) (g0 : g 0 = 0) (hinf : p.IsInf → q.IsInf) (hopt : ∀ u, p.IsOpt c u → q.IsOpt d (g u)) (hunb : p.IsUnb c → q.IsUnb d)
    (h : (s = 1 ∧ p.IsOpt c v) ∨ (s = 2 ∧ p.IsInf ∧ v = 0) ∨ (s = 3 ∧ p.IsUnb c ∧ v = 0)) (k : (t = 1 ∧ q.IsOpt d w) ∨ (t = 2 ∧ q.IsInf ∧ w = 0) ∨ (t = 3 ∧ q.IsUnb d ∧ w = 0)) : s = t ∧ g v = w := by
  rcases h with ⟨h1, h2⟩ | ⟨h1, h2, h3⟩ | ⟨h1, h2, h3⟩
  · rcases k with ⟨k1, k2⟩ | ⟨k1, k2, k3⟩ | ⟨k1, k2, k3⟩
    · exact ⟨h1.trans k1.symm, LP.opt_opt (hopt _ h2) k2⟩
    · exact (LP.opt_inf (hopt _ h2) k2).elim
    · exact (LP.opt_unb (hopt _ h2) k2).elim
  · rcases k with ⟨k1, k2⟩ | ⟨k1, k2, k3⟩ | ⟨k1, k2, k3⟩
    · exact (LP.opt_inf k2 (hinf h2)).elim
    · exact ⟨h1.trans k1.symm, by rw [h3, k3, g0]⟩
    · exact (LP.unb_inf k2 (hinf h2)).elim
  · rcases k with ⟨k1, k2⟩ | ⟨k1, k2, k3⟩ | ⟨k1, k2, k3⟩
    · exact (LP.opt_unb k2 (hunb h2)).elim
    · exact (LP.unb_inf (hunb h2) k2).elim
    · exact ⟨h1.trans k1.symm, by rw [h3, k3, g0]⟩
end Go.Eng
/- A slice that grows by append, over a heap that stays. -/
namespace Go.Eng
open Go.Proofs Num Lp
structure Gro {α : Type} (P : Heap → List Value → α → Prop) (e sz : Nat) (Hb H : Heap) (v : Value) (l : List α) (xs : List Value) : Prop where
  own : Own H v e sz l.length xs
  els : Els (P (rem H (blk v))) sz xs l
  base : Heap.le Hb (rem H (blk v))
section
variable {α : Type} {P : Heap → List Value → α → Prop} {e sz : Nat} {Hb H H' : Heap} {v v' : Value} {l : List α} {xs : List Value}
theorem Gro.le (h : Gro P e sz Hb H v l xs) : Heap.le Hb H := h.base.trans (rem_le _ _)
theorem Gro.sl (h : Gro P e sz Hb H v l xs) (up : Up P) : SlV P sz H v l := OwnS.sl ⟨xs, h.own, h.els.mono fun vs a => up _ _ vs a (rem_le _ _)⟩
theorem blk_nil : blk (.slice none 0 0) = [] := rfl
theorem gro_nil (H : Heap) : Gro P e sz H H (.slice none 0 0) [] [] := ⟨own_nil H e sz, els_nil, by rw [blk_nil, rem_nil]; exact .refl _⟩
theorem gro_make {g c : Nat} {zs : List Value} {z k : Int} (hg : H g = none) (hz : z.toNat = 0) (hk : k.toNat = c) (hc : c ≤ maxLen) : Gro P e sz H (ins H g ⟨madeL zs (z.toNat * sz), k.toNat * sz, e, true⟩) (.slice (some ⟨g, 0, none⟩) z.toNat k.toNat) [] [] := by
  rw [hk]
  refine ⟨own_make0 hz hc, els_nil, ?_⟩
  show Heap.le H (rem _ [g])
  rw [rem_ins_new _ hg, rem_nil]; exact .refl _
theorem Gro.blkne (h : Gro P e sz Hb H v l xs) : ∀ q, q ∈ blk v → H q ≠ none := fun q hq => by
  obtain ⟨en, he⟩ := h.own.block (blk_mem.1 hq)
  rw [he]; simp
/-- Behind what leaves the slice alone. -/
theorem Gro.step (h : Gro P e sz Hb H v l xs) (up : Up P) (hs : ∀ q, q ∈ blk v → H' q = H q) (hl : Heap.le (rem H (blk v)) (rem H' (blk v))) : Gro P e sz Hb H' v l xs :=
  ⟨h.own.same fun q hq => hs q (blk_mem.2 hq), h.els.mono fun vs a => up _ _ vs a hl, h.base.trans hl⟩
theorem Gro.framed (h : Gro P e sz Hb H v l xs) (up : Up P) {Post : Value → Heap → Prop} {u : Value} (hf : Framed (blk v) Post H u H') (hl : ∀ v' K, Post v' K → Heap.le (rem H (blk v)) K) : Gro P e sz Hb H' v l xs := h.step up hf.same (hl _ _ hf.post)
theorem Gro.ins (h : Gro P e sz Hb H v l xs) (up : Up P) {g : Nat} (en : Ent) (hg : H g = none) : Gro P e sz Hb (ins H g en) v l xs := by
  have hn : ¬ g ∈ blk v := fun hm => h.blkne g hm hg
  refine h.step up (fun q hq => ins_other _ _ fun e => hn (e ▸ hq)) ?_
  rw [rem_ins_out _ hn]
  exact Heap.le_ins _ (by rw [rem_out hn]; exact hg)
/-- The call of a function that needs the heap below the slice alone. -/
theorem Gro.call (h : Gro P e sz Hb H v l xs) {Q : Program} {f : FuncId} {args : Array Value} {Post : Value → Heap → Prop} (hc : Fn Q f args (rem H (blk v)) Post) : Fn Q f args H (Framed (blk v) Post H) := Fn.frame h.blkne hc
theorem Gro.append (h : Gro P e sz Hb H v l xs) (up : Up P) {m : Nat} {ys : List Value} {k : List α} (hm : m = l.length + k.length) (ha : App H v e sz m (xs ++ ys) v' H') (hy : Els (P (rem H (blk v))) sz ys k) : Gro P e sz Hb H' v' (l ++ k) (xs ++ ys) := by
  have hl : Heap.le (rem H (blk v)) (rem H' (blk v')) := fun q en hq => by
    by_cases hm : q ∈ blk v
    · rw [rem_in hm] at hq; cases hq
    · rw [rem_out hm] at hq
      have h1 := ha.same q en hq fun e => hm (blk_mem.2 e)
      have h2 : ¬ q ∈ blk v' := fun h2 => by
        have h3 := blk_mem.1 h2
        rcases ha.at_ with h4 | ⟨g, h4, h5⟩
        · exact hm (blk_mem.2 (h4 ▸ h3))
        · rw [h4] at h3; cases h3; rw [h5] at hq; cases hq
      exact ⟨en, by rw [rem_out h2]; exact h1, .refl _⟩
  refine ⟨by rw [List.length_append, ← hm]; exact ha.own, ?_, h.base.trans hl⟩
  exact (h.els.mono fun vs a => up _ _ vs a hl).append (hy.mono fun vs a => up _ _ vs a hl)
theorem Gro.form (h : Gro P e sz Hb H v l xs) : ∃ A c, v = .slice A l.length c := h.own.form
end
theorem Gro.rebase {α : Type} {P : Heap → List Value → α → Prop} {e sz : Nat} {Hb H : Heap} {v : Value} {l : List α} {xs : List Value} (h : Gro P e sz Hb H v l xs) : Gro P e sz (rem H (blk v)) H v l xs := ⟨h.own, h.els, .refl _⟩
theorem Gro.down {α : Type} {P : Heap → List Value → α → Prop} {e sz : Nat} {Hb Hc H : Heap} {v : Value} {l : List α} {xs : List Value} (h : Gro P e sz Hb H v l xs) (hl : Heap.le Hc Hb) : Gro P e sz Hc H v l xs := ⟨h.own, h.els, hl.trans h.base⟩
theorem one_bool (b : Bool) : ∀ u, u ∈ [Value.bool b] → u.oneCell' = true := fun u hu => by rw [List.mem_singleton] at hu; rw [hu]; rfl
theorem one_row (A0 : Option Addr) (k0 c0 : Nat) (z : Int) (f : Bool) (A A' : Option Addr) (k c k' c' : Nat) : ∀ u, u ∈ [Value.slice A0 k0 c0, .int .i64 z, .bool f, .slice A k c, .slice A' k' c'] → u.oneCell' = true := fun u hu => by
  simp only [List.mem_cons, List.not_mem_nil, or_false] at hu
  rcases hu with rfl | rfl | rfl | rfl | rfl <;> rfl
theorem tms {α β : Type} {f : α → β} {l : List α} {k : Nat} {z : α} (h : l[k]? = some z) : (l.take (k + 1)).map f = (l.take k).map f ++ [f z] := by
  rw [List.take_add_one, h, List.map_append]; rfl
theorem range_snoc {α : Type} (f : Nat → α) (j : Nat) : (List.range (j + 1)).map f = (List.range j).map f ++ [f j] := by rw [List.range_succ, List.map_append]; rfl
theorem CanV.form {H : Heap} {v : Value} {q : Rat} (h : CanV H v q) : ∃ f A1 m1 c1 A2 m2 c2, v = .agg #[.bool f, .slice A1 m1 c1, .slice A2 m2 c2] := by
  obtain ⟨u, w, rfl, hu, hw⟩ := h
  obtain ⟨A1, c1, rfl, _⟩ := id hu
  obtain ⟨A2, c2, rfl, _⟩ := id hw
  exact ⟨_, _, _, _, _, _, _, rfl⟩
theorem take_snoc {α : Type} {l : List α} {k : Nat} {z : α} (h : l[k]? = some z) : l.take (k + 1) = l.take k ++ [z] := by rw [List.take_add_one, h]; rfl
end Go.Eng
/- From contracts to statements, part 1: the heap of a world; how arguments read. -/
namespace Go.Eng
open Go.Proofs Num Lp Go.RowKit
/-- All that lies in memory, to be read alone. -/
def heapOf (w : World) : Heap := fun g => match w.heap[g]? with | some (.cells c t _) => some ⟨c.toList, c.size, t, false⟩ | _ => none
theorem heapOf_cells {w : World} {g : Nat} {c : Array Value} {t : TypeId} {fz : Nat × Nat} (h : w.heap[g]? = some (.cells c t fz)) : heapOf w g = some ⟨c.toList, c.size, t, false⟩ := by simp [heapOf, h]
theorem heapOf_inv {w : World} {g : Nat} {e : Ent} (h : heapOf w g = some e) : ∃ c t fz, w.heap[g]? = some (.cells c t fz) ∧ e = ⟨c.toList, c.size, t, false⟩ := by
  unfold heapOf at h
  split at h
  · rename_i c t fz hc
    exact ⟨c, t, fz, hc, by simpa using h.symm⟩
  · cases h
theorem heapOf_den (w : World) : Den (heapOf w) w := fun g e h => by
  obtain ⟨c, t, fz, h1, rfl⟩ := heapOf_inv h
  exact ⟨_, h1, c, fz, rfl, rfl, (fun i v hv => by simpa using hv), fun h => by cases h⟩
theorem heapOf_cell {w : World} {a : Addr} {v : Value} (h : w.cell? a = some v) : cell (heapOf w) a = some v := by
  unfold World.cell? at h
  unfold cell
  cases hg : w.heap[a.block]? with
  | none => rw [hg] at h; simp at h
  | some o =>
    cases o with
    | cells c t fz =>
      rw [heapOf_cells hg]
      rw [hg] at h
      simpa using h
    | _ => rw [hg] at h; simp at h
theorem below_of {w w' : World} {H' : Heap} (hle : Heap.le (heapOf w) H') (hd : Den H' w') (hf : Fx (heapOf w) w H' w') : Below w.heap.size w w' := by
  refine ⟨hf.os, hf.tape, hf.output, hf.size, fun k hk => ?_⟩
  cases hg : heapOf w k with
  | none => exact (hf.keep k hk hg).1
  | some e =>
    obtain ⟨c, t, fz, h1, rfl⟩ := heapOf_inv hg
    obtain ⟨e', h2, h3⟩ := hle k _ hg
    obtain ⟨o, h4, c1, fz1, rfl, h5, h6, _⟩ := hd k e' h2
    obtain ⟨c2, h7, h8⟩ := hf.form k c t fz h1
    rw [h4] at h7
    simp only [Option.some.injEq, Obj.cells.injEq] at h7
    obtain ⟨rfl, h9, rfl⟩ := h7
    rw [h4, h1, h9]
    have : c1 = c := by
      apply Array.ext_getElem?
      intro i
      by_cases hi : i < c.size
      · have h10 : e'.xs[i]? = some c[i] := prefix_get h3.2.2.2 (by simp [hi])
        rw [h6 i _ h10]; simp [hi]
      · rw [Array.getElem?_eq_none (by omega), Array.getElem?_eq_none (by omega)]
    rw [this]
/-- A contract as the statements want it. -/
theorem Fn.law {P : Program} {f : FuncId} {args : Array Value} {w : World} (h : Fn P f args (heapOf w) (fun v H' => Heap.le (heapOf w) H' ∧ v = .bool true)) : Calls P f args w fun e w' => e = .returned (.bool true) ∧ Below w.heap.size w w' :=
  (h.run w (heapOf_den w)).mono fun _ _ ⟨v, he, H', ⟨h1, h2⟩, h3, h4⟩ => ⟨by rw [he, h2], below_of h1 h3 h4⟩
/-! ## arguments -/
section
variable {Hy : Type} {enc : TypeId × Value → Hy} {P : Program} {w : World} {spare : Nat → Bool} {held : Bool}
theorem els_snoc {α : Type} {Q : List Value → α → Prop} {sz : Nat} {xs cs : List Value} {l : List α} {b : α} (h : Els Q sz xs l) (hb : Q cs b) (hl : cs.length = sz) : Els Q sz (xs ++ cs) (l ++ [b]) := h.append (els_one hb hl)
theorem rd_snoc {H : Heap} {a : Addr} {xs cs : List Value} (h : Rd H (some a) xs) (k : ∀ i v, cs[i]? = some v → cell H (a.add (xs.length + i)) = some v) : Rd H (some a) (xs ++ cs) := fun i v hv => by
  by_cases hi : i < xs.length
  · rw [List.getElem?_append_left hi] at hv; exact h i v hv
  · rw [List.getElem?_append_right (by omega)] at hv
    have := k _ _ hv
    rw [show xs.length + (i - xs.length) = i by omega] at this
    exact ⟨a, rfl, this⟩
/-- A slice reads as a list, where its elements read. -/
theorem trod_slV {α : Type} {Q : Heap → List Value → α → Prop} {t e sz : Nat} (ht : P.underlying t = some (.slice e)) (hc : P.cellsOf e = sz) (hp : 0 < sz) (hq : ∀ n cs x, cs.length = sz → DataW.trod enc P w 0 spare held n e cs = some x → ∃ a, Q (heapOf w) cs a)
    {n : Nat} {cs : List Value} {x : DataW Hy × List MemPlace} (h : DataW.trod enc P w 0 spare held n t cs = some x) : ∃ v l, cs = [v] ∧ SlV Q sz (heapOf w) v (l : List α) ∧ l.length ≤ maxLen := by
  rcases Deep.open_slice ht h with ⟨rfl, _⟩ | ⟨a, len, cap, m, n', D, Pl, rfl, _, hl, hm, hmm, _, hx⟩
  · exact ⟨_, [], rfl, slV_nil, Nat.zero_le _⟩
  · have hlm : len ≤ m := by rw [hmm]; split <;> omega
    rw [hc] at hx
    have key : ∀ k, k ≤ len → ∃ xs l, l.length = k ∧ Els (Q (heapOf w)) sz xs (l : List α) ∧ Rd (heapOf w) (some a) xs := by
      intro k
      induction k with
      | zero => exact fun _ => ⟨[], [], rfl, els_nil, Rd.nil _ _⟩
      | succ k ih =>
        intro hk
        obtain ⟨xs, l, h1, h2, h3⟩ := ih (by omega)
        obtain ⟨cs', h4, h5⟩ := hx k (by omega)
        obtain ⟨_, h6, h7⟩ := World.cells?_some h4
        obtain ⟨b, hb⟩ := hq _ _ _ h6 h5
        refine ⟨xs ++ cs', l ++ [b], by simp [h1], els_snoc h2 hb h6, rd_snoc h3 fun i v hv => ?_⟩
        have hi := (List.getElem?_eq_some_iff.1 hv).1
        have h8 := h7 i (by omega)
        rw [hv, add_add] at h8
        rw [h2.len, h1]; exact heapOf_cell h8
    obtain ⟨xs, l, h1, h2, h3⟩ := key len (Nat.le_refl _)
    refine ⟨_, l, rfl, ⟨some a, cap, xs, by rw [h1], by omega, h3, h2⟩, by omega⟩
theorem wf_u32 {z : Int} (h : (Lit.int .u32 z).wf = true) : 0 ≤ z ∧ z < 4294967296 := by
  simp [Lit.wf, IntKind.min, IntKind.max, IntKind.signed, IntKind.bits] at h; omega
/-- A list of limbs. -/
theorem trod_lim {t e : Nat} (ht : P.underlying t = some (.slice e)) (he : P.underlying e = some (.int .u32)) (hc : P.cellsOf e = 1) {n : Nat} {cs : List Value} {x : DataW Hy × List MemPlace} (h : DataW.trod enc P w 0 spare held n t cs = some x) :
    ∃ v l, cs = [v] ∧ LimV (heapOf w) v l ∧ (∀ y, y ∈ l → y < 4294967296) ∧ l.length ≤ maxLen := by
  obtain ⟨v, l, rfl, ⟨A, c, xs, rfl, h2, h3, h4⟩, h5⟩ := trod_slV (α := Nat) (Q := fun _ vs a => vs = [.int .u32 (Int.ofNat a)] ∧ a < 4294967296) ht hc (by decide) (fun n cs x hl h => by
    obtain ⟨z, rfl, _, hz⟩ := DataW.trod_int he h
    obtain ⟨h1, h2⟩ := wf_u32 hz
    exact ⟨z.toNat, by rw [show Int.ofNat z.toNat = z from Int.toNat_of_nonneg h1], by omega⟩) h
  refine ⟨_, l, rfl, ⟨A, c, rfl, h2, ?_⟩, fun y hy => ?_, h5⟩
  · have : xs = U l := by
      apply List.ext_getElem?
      intro i
      by_cases hi : i < l.length
      · obtain ⟨u, h6, h7⟩ := h4.one (List.getElem?_eq_getElem hi)
        rw [h6, U_get (List.getElem?_eq_getElem hi)]
        have := h7.1
        simpa using this
      · rw [List.getElem?_eq_none (by rw [h4.len]; omega), List.getElem?_eq_none (by rw [U_length]; omega)]
    rw [← this]; exact h3
  · obtain ⟨i, hi⟩ := List.getElem?_of_mem hy
    exact (h4.at_ i y hi).2
/-- A rational number. -/
theorem trod_rat {t f0 f1 lu : Nat} {F0 F1 F2 : Field} (ht : P.underlying t = some (.struct #[F0, F1, F2])) (e0 : F0.type = f0 ∧ F0.offset = 0) (e1 : F1.type = f1 ∧ F1.offset = 1) (e2 : F2.type = f1 ∧ F2.offset = 2) (hb : P.underlying f0 = some .bool) (hl : P.underlying f1 = some (.slice lu)) (hu : P.underlying lu = some (.int .u32)) (hc : P.cellsOf lu = 1) (c0 : P.cellsOf f0 = 1) (c1 : P.cellsOf f1 = 1)
    {n : Nat} {cs : List Value} {x : DataW Hy × List MemPlace} (h : DataW.trod enc P w 0 spare held n t cs = some x) (hcs : cs.length = 3) : ∃ q, RatP maxLen (heapOf w) cs q := by
  match cs, hcs with
  | [a, b, c], _ =>
    obtain ⟨y0, y1, y2, m, _, _, h0, h1, h2⟩ := Deep.trod_struct3 ht h
    rw [e0.1, e0.2, c0] at h0
    rw [e1.1, e1.2, c1] at h1
    rw [e2.1, e2.2, c1] at h2
    obtain ⟨f, k0, _⟩ := DataW.trod_bool hb h0
    obtain ⟨u, l1, k1, k2, k3, k4⟩ := trod_lim hl hu hc h1
    obtain ⟨v, l2, k5, k6, k7, k8⟩ := trod_lim hl hu hc h2
    simp at k0 k1 k5
    subst k0 k1 k5
    exact ⟨_, _, _, _, l1, l2, rfl, k2, k6, k3, k7, k4, k8, rfl⟩
end
section
variable {Hy : Type} {enc : TypeId × Value → Hy} {w : World} {spare : Nat → Bool} {held : Bool}
theorem cellsRat : Tryz.prog.cellsOf 34 = 3 := by kernel_rfl
theorem readRat {n : Nat} {cs : List Value} {x : DataW Hy × List MemPlace} (h : DataW.trod enc Tryz.prog w 0 spare held n 34 cs = some x) (hcs : cs.length = 3) : ∃ q, RatP maxLen (heapOf w) cs q :=
  trod_rat Tryz.underlying34 ⟨rfl, rfl⟩ ⟨rfl, rfl⟩ ⟨rfl, rfl⟩ Tryz.underlying4 Tryz.underlying32 Tryz.underlying117 (by kernel_rfl) (by kernel_rfl) (by kernel_rfl) h hcs
theorem readRats {n : Nat} {cs : List Value} {x : DataW Hy × List MemPlace} (h : DataW.trod enc Tryz.prog w 0 spare held n 26 cs = some x) : ∃ v l, cs = [v] ∧ SlV (RatP maxLen) 3 (heapOf w) v l :=
  let ⟨v, l, h1, h2, _⟩ := trod_slV (Q := RatP maxLen) Tryz.underlying26 cellsRat (by decide) (fun _ _ _ hl h => readRat h hl) h
  ⟨v, l, h1, h2⟩
theorem readRow {n : Nat} {cs : List Value} {x : DataW Hy × List MemPlace} (h : DataW.trod enc Tryz.prog w 0 spare held n 46 cs = some x) (hcs : cs.length = 5) : ∃ r, RowP maxLen (heapOf w) cs r := by
  match cs, hcs with
  | [a, b, c, d, e], _ =>
    obtain ⟨y0, y1, y2, m, _, _, h0, h1, h2⟩ := Deep.trod_struct3 Tryz.underlying46 h
    have c0 : Tryz.prog.cellsOf 26 = 1 := by kernel_rfl
    have c1 : Tryz.prog.cellsOf 3 = 1 := by kernel_rfl
    obtain ⟨v, l, k0, k1⟩ := readRats h0
    obtain ⟨z, k2, _⟩ := DataW.trod_int Tryz.underlying3 h1
    simp only [c0, c1, cellsRat] at k0 k2 h2
    simp at k0 k2
    subst k0 k2
    obtain ⟨q, hq⟩ := readRat h2 (by simp)
    have hq' : RawV (heapOf w) (.agg #[c, d, e]) q maxLen := hq
    obtain ⟨f, u, w', l1, l2, e1, hr⟩ := id hq'
    have e2 := arr3 (vs := [c, d, e]) e1
    simp only [List.cons.injEq, and_true] at e2
    obtain ⟨rfl, rfl, rfl⟩ := e2
    exact ⟨(l, z, q), _, _, _, _, rfl, k1, hq'⟩
set_option maxRecDepth 100000 in
theorem readProg {v : Value} {d : DataW Hy} {ps : List MemPlace} {b0 : Nat} {rr : Reach} (hv : Value.okWide Tryz.prog w rr b0 25 v) (h : DataW.Trod enc Tryz.prog w 0 spare held 25 v d ps) : ∃ p, ProgV maxLen (heapOf w) v p := by
  obtain ⟨cs, rfl, hsz⟩ := WideShapes.okWide_struct Tryz.underlying25 hv
  have hC : Tryz.prog.cellsOf 25 = 2 := by kernel_rfl
  obtain ⟨cs, rfl⟩ : ∃ l : List Value, cs = l.toArray := ⟨cs.toList, by simp⟩
  match cs, (show cs.length = 2 by rw [hC] at hsz; simpa using hsz) with
  | [a, b], _ =>
    obtain ⟨fuel, hf⟩ := h
    obtain ⟨y0, y1, m, _, _, h0, h1⟩ := ChangeShapes.trod_struct2 Tryz.underlying25 hf
    have c0 : Tryz.prog.cellsOf 22 = 1 := by kernel_rfl
    have c1 : Tryz.prog.cellsOf 23 = 1 := by kernel_rfl
    have c2 : Tryz.prog.cellsOf 4 = 1 := by kernel_rfl
    have c3 : Tryz.prog.cellsOf 46 = 5 := by kernel_rfl
    obtain ⟨fv, fl, k0, k1, _⟩ := trod_slV (α := Bool) (Q := BoolP) Tryz.underlying22 c2 (by decide) (fun n cs x hl h => by
      obtain ⟨b, rfl, _⟩ := DataW.trod_bool Tryz.underlying4 h
      exact ⟨b, rfl⟩) h0
    obtain ⟨rv, rl, k2, k3, _⟩ := trod_slV (Q := RowP maxLen) Tryz.underlying23 c3 (by decide) (fun n cs x hl h => readRow h hl) h1
    simp only [c0, c1] at k0 k2
    simp [Value.cells] at k0 k2
    subst k0 k2
    exact ⟨⟨fl, rl⟩, _, _, rfl, k1, k3⟩
set_option maxRecDepth 100000 in
theorem readVec {v : Value} {d : DataW Hy} {ps : List MemPlace} {b0 : Nat} {rr : Reach} (hv : Value.okWide Tryz.prog w rr b0 26 v) (h : DataW.Trod enc Tryz.prog w 0 spare held 26 v d ps) : ∃ l, SlV (RatP maxLen) 3 (heapOf w) v l := by
  obtain ⟨a, len, cap, rfl⟩ := WideShapes.okWide_slice Tryz.underlying26 hv
  obtain ⟨fuel, hf⟩ := h
  obtain ⟨v', l, k0, k1⟩ := readRats hf
  simp [Value.cells] at k0
  subst k0
  exact ⟨l, k1⟩
theorem wf_u8 {z : Int} (h : (Lit.int .u8 z).wf = true) : 0 ≤ z ∧ z ≤ 255 := by
  simp [Lit.wf, IntKind.min, IntKind.max, IntKind.signed, IntKind.bits] at h; omega
theorem wf_i8 {z : Int} (h : (Lit.int .i8 z).wf = true) : -128 ≤ z ∧ z ≤ 127 := by
  simp [Lit.wf, IntKind.min, IntKind.max, IntKind.signed, IntKind.bits] at h; omega
set_option maxRecDepth 100000 in
theorem readRowV {v : Value} {d : DataW Hy} {ps : List MemPlace} {b0 : Nat} {rr : Reach} (hv : Value.okWide Tryz.prog w rr b0 46 v) (h : DataW.Trod enc Tryz.prog w 0 spare held 46 v d ps) : ∃ cs r, v = .agg (List.toArray cs) ∧ RowP maxLen (heapOf w) cs r := by
  obtain ⟨cs, rfl, hsz⟩ := WideShapes.okWide_struct Tryz.underlying46 hv
  have hC : Tryz.prog.cellsOf 46 = 5 := by kernel_rfl
  obtain ⟨cs, rfl⟩ : ∃ l : List Value, cs = l.toArray := ⟨cs.toList, by simp⟩
  have hl : cs.length = 5 := by rw [hC] at hsz; simpa using hsz
  obtain ⟨fuel, hf⟩ := h
  obtain ⟨r, hr⟩ := readRow (cs := cs) (by simpa [Value.cells] using hf) hl
  exact ⟨cs, r, rfl, hr⟩
end
end Go.Eng
