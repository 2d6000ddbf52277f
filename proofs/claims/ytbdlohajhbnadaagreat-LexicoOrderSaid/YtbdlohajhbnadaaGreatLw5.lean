/- LexicoOrder: the law's walk. -/
import Derived.Test.YtbdlohajhbnadaaGreatA10
import Derived.Test.YtbdlohajhbnadaaGreatLw3
import Derived.Test.YtbdlohajhbnadaaGreatBef
import Derived.Test.YtbdlohajhbnadaaGreatSmp9
set_option linter.unusedVariables false
namespace Go.Eng
open Go.Proofs Num Lp
/-- No feasible vector has lesser values. -/
theorem lex_order {p : Prg} {os : List (List Rat)} {vs : List Rat} {x : Nat → Rat} (h : Lev p os vs) (hx : p.lp.Meets 1 x) : ∀ (i : Nat) (u w : Rat), vs[i]? = some u → (os.map fun o => dotN p.free.length (fn o) x)[i]? = some w → (∀ j, j < i → vs[j]? = (os.map fun o => dotN p.free.length (fn o) x)[j]?) → u ≤ w := by
  intro i u w hu hw heq
  rw [List.getElem?_map] at hw
  cases ho : os[i]? with
  | none => rw [ho] at hw; cases hw
  | some o =>
    rw [ho] at hw
    cases hw
    refine (h.2 i o u ho hu).2 x ((ext_meets (by rw [List.length_take]; have := h.1; omega)).2 ⟨hx, fun j o' v' h1 h2 => ?_⟩)
    rw [List.getElem?_take] at h2
    split at h2
    · rename_i hj
      have := heq j hj
      rw [h2, List.getElem?_map, h1] at this
      cases this
      grind
    · cases h2
theorem order_ok {H : Heap} {v ov xv : Value} {p : Prg} {os : List (List Rat)} {x : List Rat} {N : Nat} (hp : ProgV N H v p) (ho : LsV N H ov os) (hx : SlV (RatP N) 3 H xv x) (hol : os.length ≤ 9223372036854775807) :
  Fn Tryz.prog 11 #[v, ov, xv] H (fun v H' => Heap.le H H' ∧ v = .bool true) := by
 obtain ⟨fv, rv0, rfl, hfv, hrv0⟩ := id hp
 obtain ⟨Af, cf, xf, rfl, hrF, hxF⟩ := hfv.one
 obtain ⟨Ar, cr, xr, rfl, hcr, hrR, hxR⟩ := id hrv0
 obtain ⟨Ax, cx, xx, rfl, hcx, hrx, hex⟩ := id hx
 obtain ⟨Ao, co, xo, rfl, hco, hro, hxo⟩ := id ho; refine fn_intro (args := [_, _, _]) Tryz.func11 rfl rfl Tryz.ntmps11 rfl rfl fun w0 => ?_; refine vc_keep [0, 1, 2] rfl ?_; refine vc_sr ?_; refine vco_box rfl rfl ?_; refine vr 1 ?_; refine vco_k [1, 2, 3] ?_; refine vc_seq ?_; refine vc_sr ?_; refine vco_call rfl rfl (sane3_ok) ?_; rintro _ H1 ⟨hl1, rfl⟩; refine vr 1 ?_; refine vco_k [1, 2, 3, 14] ?_; refine vc_cond_f rfl ?_; refine vc_skip ?_; refine vc_keep [1, 2, 3] rfl ?_; refine vc_seq ?_; refine vc_sr ?_; refine vr 2 ?_; refine vco_call rfl rfl (solvable3_ok (hp.le hl1) (ho.le (vecUp N) hl1) hol) ?_; rintro _ H2 ⟨e2, b2, rfl, hb2⟩; rw [e2]
 cases b2
 ·
  skip
  refine vr 6 ?_; refine vco_k [1, 2, 3, 23] ?_; refine vc_cond_t rfl ?_; refine vc_sr ?_; refine vr 1 ?_; refine vco_k [6] ?_; refine vc_ret ⟨.inr rfl, _, .tmp rfl (.nil), ?_⟩; exact ⟨hl1, rfl⟩
 ·
  skip
  refine vr 3 ?_; refine vco_call rfl rfl (kRats_ok (n := 5) (hx.le (ratUp N) hl1) (by decide)) ?_; rintro _ H3 ⟨e3, b3, rfl, hb3⟩; rw [e3]; refine vr 2 ?_; refine vco_k [1, 2, 3, 23] ?_; refine vc_cond rfl (fun hb => ?_) (fun hb => ?_)
  ·
   skip
   refine vc_sr ?_; refine vr 1 ?_; refine vco_k [6] ?_; refine vc_ret ⟨.inr rfl, _, .tmp rfl (.nil), ?_⟩; exact ⟨hl1, rfl⟩
  ·
   obtain ⟨hk, hf⟩ := hb2 rfl; obtain ⟨hx5, hx2⟩ := hb3 (by simpa using hb); have hz := hk.sz hf; have hol4 := hk.len; refine vc_skip ?_; refine vc_keep [1, 2, 3] rfl ?_; refine vc_sr ?_; refine vr 2 ?_; refine vco_call rfl rfl (lexQ_ok (N := 2) hk.sml.prog hk.obj (by decide) hf hz) ?_; rintro _ H3 ⟨hl3, S, A31, c31, A32, c32, A33, c33, A34, c34, rfl, hchk3, hv31, hv32, hv33, hv34⟩; refine vr 3 ?_; refine vco_alloc el31 rfl ?_; obtain ⟨ti, hti, htz⟩ := sz31; refine vco_bstore (.inl ⟨rfl, rfl⟩) rfl rfl rfl hti htz rfl rfl rfl ?_; refine vr 1 ?_; refine vco_k [1, 2, 3, 7, 8] ?_; refine vc_seq ?_; refine vc_sr ?_; refine vr 2 ?_; refine vco_k [1, 2, 3, 7, 31] ?_; refine vc_cond_f rfl ?_; refine vc_skip ?_; refine vc_keep [1, 2, 3, 7] rfl ?_; refine vc_seq ?_; refine vc_sr ?_; refine vr 2 ?_; refine vco_call rfl rfl (Feasible_ok (N := 2) (hk.sml.prog.le hl3) (hx2.le (ratUp 2) hl3) (by omega) (by decide)) ?_; rintro _ H4 ⟨hl4, b4, rfl, hb4⟩; have h04 := hl1.trans (hl3.trans hl4); refine vr 1 ?_; refine vco_k [1, 2, 7, 35] ?_; refine vc_cond rfl (fun hb => ?_) (fun hb => ?_)
   ·
    skip
    refine vc_sr ?_; refine vr 1 ?_; refine vco_k [6] ?_; refine vc_ret ⟨.inr rfl, _, .tmp rfl (.nil), ?_⟩; exact ⟨h04, rfl⟩
   ·
    have hpf := hb4.1 (by simpa using hb); have hxl := hpf.len; have hk4 := (hk.le hl3).le hl4; have hx4 := (hx2.le (ratUp 2) hl3).le (ratUp 2) hl4; obtain ⟨Ao9, co9, xo9, e9, hco9, hro9, hxo9⟩ := id hk4.obj
    cases e9
    refine vc_skip ?_; refine vc_keep [1, 2, 7] rfl ?_; refine vc_sr ?_; refine vr 1 ?_; refine vco_k [1, 2, 7, 9] ?_; refine vc_seq ?_; refine vc_sr ?_; refine vr 3 ?_; refine vco_k [1, 2, 7, 9, 37, 38] ?_; refine vc_block ?_; refine vc_loop3 (fun (i : Nat) (w : Value) (ys : List Value) => os.length - i) (fun (i : Nat) (w : Value) (ys : List Value) => put (put (put (put (put (put (emp) 1 (.val (.slice Ao os.length co))) 2 (.val (.slice Ax x.length cx))) 7 (.box [.int .i64 S.status, .slice A31 S.values.length c31, .slice A32 S.x.length c32, .slice A33 S.duals.length c33, .slice A34 S.ray.length c34])) 9 (.val (w))) 37 (.val (.int .i64 (os.length : Int)))) 38 (.val (.int .i64 (i : Int)))) (fun (i : Nat) (w : Value) (ys : List Value) H' => Gro CanP 42 3 H4 H' w ((os.take i).map (fun o : List Rat => dotN p.free.length (fn o) (fn x))) ys ∧ i ≤ os.length) 0 (.slice none 0 0) [] (⟨gro_nil H4, Nat.zero_le _⟩) sub_auto ?_; rintro i w ys H5 ⟨hG, hi⟩; obtain ⟨W, cw, rfl⟩ := hG.form
    have htl : ((os.take i).map (fun o : List Rat => dotN p.free.length (fn o) (fn x))).length = i := by rw [List.length_map, List.length_take]; omega
    refine vc_sr ?_; refine vr 1 ?_; refine vco_k [1, 2, 7, 9, 37, 38, 39] ?_; refine vc_seq ?_; refine vc_cond rfl (fun hb => ?_) (fun hb => ?_)
    ·
     have hio : i < os.length := by simpa using hb
     obtain ⟨o, hoi⟩ : ∃ o, os[i]? = some o := ⟨_, List.getElem?_eq_getElem hio⟩; have hom := List.mem_of_getElem? hoi; have hov := hf.vec o hom; obtain ⟨Bo, cb, hbx, hsl⟩ := vec_get hxo9 hoi; refine vc_skip ?_; refine vc_keep [1, 2, 7, 9, 37, 38] rfl ?_; refine vc_seq ?_; refine vc_block ?_; refine vc_sr ?_; refine vr 2 ?_; refine vco_k [1, 2, 7, 9, 10, 37, 38] ?_; refine vc_sr ?_; refine vr 2 ?_; refine vco_at tbOk rfl rfl rfl rfl rfl (hro9.le hG.le) (by rw [Int.toNat_natCast]; exact hbx) (by omega) (by omega) fun _ => ?_; refine vr 1 ?_; refine vco_call rfl rfl (hG.call (Value_ok (N := 2) (hsl.le (ratUp 2) hG.base) (hx4.le (ratUp 2) hG.base) (by decide) (by have h9 := hk.vec o hom; omega))) ?_; rintro _ H6 hF6; have hG6 := hG.framed canUp hF6 fun _ _ h => h.1; obtain ⟨⟨_, s, e, rfl, hcs⟩, _⟩ := hF6; obtain ⟨h9, _⟩ | ⟨_, rfl, hq6⟩ := hcs
     · exact absurd (by omega) h9
     obtain ⟨f6, A61, m61, c61, A62, m62, c62, rfl⟩ := hq6.form; rw [hov] at hq6; refine vr 3 ?_; refine vco_alloc el42 rfl ?_; obtain ⟨ti, hti, htz⟩ := sz42; refine vco_bstore (.inl ⟨rfl, rfl⟩) rfl rfl rfl hti htz rfl rfl rfl ?_; refine vr 1 ?_; refine vco_k [1, 2, 7, 9, 11, 12, 37, 38] ?_; refine vc_seq ?_; refine vc_sr ?_; refine vr 2 ?_; refine vco_k [1, 2, 7, 9, 11, 37, 38, 51] ?_; refine vc_cond_f rfl ?_; refine vc_skip ?_; refine vc_keep [1, 2, 7, 9, 11, 37, 38] rfl ?_; refine vc_region rfl ?_; refine vr 2 ?_; refine vco_build Tryz.underlying29 el42 rfl rfl rfl rfl rfl rfl rfl ?_; intro gb hgb; have hG7 := hG6.ins canUp (whole (cellsL [.agg #[.bool f6, .slice A61 m61 c61, .slice A62 m62 c62]]) 42) hgb; refine vco_append Tryz.underlying29 el42 rfl rfl hG7.own (rd_ins _ _ _ _ _ _) rfl (one_rat _ _ _ _ _ _ _) (by rw [htl]; omega) (by rw [htl]; omega) ?_; intro v8 H8 ha8; have hG8 := hG7.append canUp (k := [dotN p.free.length (fn o) (fn x)]) (by simp) ha8 (els_one (canUp _ _ _ _ (rem_mono _ (Heap.le_ins _ hgb)) (show CanP _ [_, _, _] _ from hq6)) rfl); refine vr 1 ?_; refine vco_end ?_; refine vc_keep [1, 2, 7, 9, 37, 38] rfl ?_; refine vc_region rfl ?_; refine vco_add rfl rfl ⟨by omega, by omega⟩ ?_; refine vr 1 ?_; refine vco_end ?_; exact ⟨i + 1, _, _, by omega, sub_auto, by rw [tms hoi]; exact hG8, by omega⟩
    ·
     have hb : os.length ≤ i := by simpa using hb
     obtain rfl : i = os.length := by omega
     rw [List.take_length] at hG; rw [List.take_length]
     have hW := (hG.sl canUp).can_rat (N := KX) (fun q hq => by
      obtain ⟨o, ho9, rfl⟩ := List.mem_map.1 hq; have h9 := hf.vec o ho9; have h8 := hk.obj.two o ho9
      have hz1 : ∀ j, j < p.free.length → szQ (fn o j) ≤ 4 := fun j hj => by
       have h7 := hk.sml.prog; obtain ⟨i9, hi9⟩ := List.getElem?_of_mem ho9; obtain ⟨_, _, _, hs9⟩ := vec_get hxo9 hi9; exact hs9.rsize _ (fn_mem (by omega))
      have hz2 := dot_sz (M := 4) p.free.length (fn o) (fn x) hz1 (fun j hj => hx4.rsize _ (fn_mem (by omega))); have h6 := hk.sml.cols; have h5 : p.free.length * (2 * 4 + 2) ≤ 4 * (2 * 4 + 2) := Nat.mul_le_mul_right _ h6
      show _ ≤ 200000000
      omega)
     have h05 := h04.trans hG.le; have hlen := hchk3.sem
     have hst : S.status = 3 ∨ (S.status = 1 ∧ Lev p os S.values) := by
      rcases hlen with h9 | h9 | h9
      · exact .inr ⟨h9.1, h9.2.2.1⟩
      · exact absurd hpf.meets (h9.2.2 _)
      · exact .inl h9.1
     refine vc_exit ?_; refine vc_keep [7, 9] rfl ?_
     by_cases h3 : S.status = 3
     ·
      skip
      refine vc_sr ?_; refine vr 2 ?_; refine vco_cmp true rfl rfl (ceq_t h3) ?_; refine vr 13 ?_; refine vco_k [6] ?_; refine vc_ret ⟨.inr rfl, _, .tmp rfl (.nil), ?_⟩; exact ⟨h05, rfl⟩
     ·
      obtain ⟨h1, hlv⟩ : S.status = 1 ∧ Lev p os S.values := by rcases hst with h9 | h9; exact absurd h9 h3; exact h9
      refine vc_sr ?_; refine vr 2 ?_; refine vco_cmp false rfl rfl (ceq_f h3) ?_; refine vr 3 ?_; refine vco_cmp true rfl rfl (ceq_t h1) ?_; refine vr 4 ?_; refine vco_call rfl rfl (before_ok (N := KX) (((hv31.le (ratUp KX) hl4).le (ratUp KX) hG.le)) hW (by have h9 := hlv.1; omega) (lex_order hlv hpf.meets) (by decide)) ?_; rintro _ H9 ⟨hl9, z, rfl, hz9⟩; refine vco_cmp true rfl rfl (cle_t hz9) ?_; refine vr 3 ?_; refine vco_k [6] ?_; refine vc_ret ⟨.inr rfl, _, .tmp rfl (.nil), ?_⟩; exact ⟨h05.trans hl9, rfl⟩
end Go.Eng
