/- LexicoBelow: the law's walk. -/
import Derived.Test.YtbdlohajhbnadaaGreatA10
import Derived.Test.YtbdlohajhbnadaaGreatLw3
import Derived.Test.YtbdlohajhbnadaaGreatBef
import Derived.Test.YtbdlohajhbnadaaGreatAdr
import Derived.Test.YtbdlohajhbnadaaGreatSmp3
set_option linter.unusedVariables false
namespace Go.Eng
open Go.Proofs Num Lp
theorem rd_uniq {H : Heap} {A : Option Addr} {xs ys : List Value} (h1 : Rd H A xs) (h2 : Rd H A ys) (hl : xs.length = ys.length) : xs = ys := by
  apply List.ext_getElem?
  intro i
  by_cases hi : i < xs.length
  · have g1 : xs[i]? = some xs[i] := List.getElem?_eq_getElem hi
    have g2 : ys[i]? = some (ys[i]'(by omega)) := List.getElem?_eq_getElem (by omega)
    obtain ⟨a, e1, c1⟩ := h1 i _ g1
    obtain ⟨b, e2, c2⟩ := h2 i _ g2
    rw [e1] at e2
    cases e2
    rw [c1] at c2
    rw [g1, g2, Option.some.inj c2]
  · rw [List.getElem?_eq_none (by omega), List.getElem?_eq_none (by omega)]
theorem els_left {α : Type} {P : List Value → α → Prop} {sz : Nat} {xs ys : List Value} {l k : List α} (h : Els P sz (xs ++ ys) (l ++ k)) (hx : xs.length = l.length * sz) : Els P sz xs l := by
  have h1 := h.take (n := l.length) (by rw [List.length_append]; omega)
  rw [List.take_append_of_le_length (Nat.le_refl _), List.take_length, ← hx, List.take_append_of_le_length (Nat.le_refl _), List.take_length] at h1
  exact h1
theorem lexLe_at {n : Nat} {y x : List Rat} (h : LexLe n (fn y) (fn x)) (hy : y.length = n) (hx : x.length = n) : ∀ (i : Nat) (u w : Rat), y[i]? = some u → x[i]? = some w → (∀ j, j < i → y[j]? = x[j]?) → u ≤ w := by
  intro i u w hu hw heq
  have hi := (List.getElem?_eq_some_iff.1 hu).1
  have hfe : ∀ j, j < i → fn y j = fn x j := fun j hj => by unfold fn; rw [List.getD, List.getD, heq j hj]
  rw [← fn_get hu, ← fn_get hw]
  rcases h with h | ⟨j, hj, h1, h2⟩
  · rw [h i (by omega)]; exact Rat.le_refl
  · rcases Nat.lt_trichotomy i j with e | e | e
    · rw [h1 i e]; exact Rat.le_refl
    · subst e; grind
    · have := hfe j e; grind
def lcf (p : Prg) : List Rat := 0 :: 1 :: p.rows.flatMap (·.1)
theorem lstSz_of {p : Prg} (hok : p.Ok) (hn : p.free.length ≤ 4) (hm : p.rows.length ≤ 5) (h1 : ∀ r, r ∈ p.rows → (∀ q, q ∈ r.1 → Tab.wt q ≤ 126) ∧ Tab.wt r.2.2 ≤ 126) : LstSz p (lcf p) 400000 (2 * Tab.wts (p.rows.map (·.2.2))) := by
  have hr : ∀ r, r ∈ p.rows → r.1.length ≤ 4 := fun r hr => by
    obtain ⟨i, hi⟩ := List.getElem?_of_mem hr
    have := (hok.row i r hi).1; omega
  have hc : Tab.wts (lcf p) ≤ 22 * 126 := by
    refine Nat.le_trans (wts_len (k := 126) fun q hq => ?_) (Nat.mul_le_mul_right _ ?_)
    · rcases List.mem_cons.1 hq with rfl | hq
      · decide
      · rcases List.mem_cons.1 hq with rfl | hq
        · decide
        · obtain ⟨r, hr, hq⟩ := List.mem_flatMap.1 hq
          exact (h1 r hr).1 q hq
    · have a1 := flat2_len hr
      have a3 : p.rows.length * 4 ≤ 5 * 4 := Nat.mul_le_mul_right _ hm
      simp only [lcf, List.length_cons]; omega
  have hb : Tab.wts (p.rows.map (·.2.2)) ≤ 5 * 126 := by
    refine Nat.le_trans (wts_len (k := 126) fun q hq => ?_) (Nat.mul_le_mul_right _ (by rw [List.length_map]; exact hm))
    obtain ⟨r, hr, rfl⟩ := List.mem_map.1 hq
    exact (h1 r hr).2
  refine ⟨fun i hi j _ => ?_, by simp [lcf], by simp [lcf], ⟨_, bin_of p⟩, ?_, ?_⟩
  · have hi : i < p.rows.length := hi
    show fn (p.row i).1 j ∈ _
    rw [Prg.row_get (List.getElem?_eq_getElem hi)]
    exact fn_mem0 (fun _ hq => List.mem_cons_of_mem _ (List.mem_cons_of_mem _ (List.mem_flatMap.2 ⟨_, List.getElem_mem hi, hq⟩))) (List.mem_cons_self ..) j
  · unfold bitE
    have h9 : 2 ^ p.rows.length ≤ 2 ^ 5 := Nat.pow_le_pow_right (by decide) hm
    have h8 := Nat.mul_le_mul h9 (show 4 * Tab.wts (lcf p) + p.rows.length + 1 ≤ 4 * (22 * 126) + 5 + 1 by omega)
    have h7 : 2 ^ 5 * (4 * (22 * 126) + 5 + 1) = 355008 := by decide
    omega
  · have h9 : (p.free.length + 1) * (400000 + 2 * Tab.wts (lcf p) + 1) ≤ 5 * (400000 + 2 * (22 * 126) + 1) := Nat.mul_le_mul (by omega) (by omega)
    omega
theorem ProgV.lsz {H : Heap} {v : Value} {p : Prg} (h : ProgV 2 H v p) (hok : p.Ok) (hn : p.free.length ≤ 4) (hm : p.rows.length ≤ 5) : LstSz p (lcf p) 400000 (2 * Tab.wts (p.rows.map (·.2.2))) :=
  lstSz_of hok hn hm fun r hr => ⟨fun q hq => wt2 ((h.two r hr).1 q hq), wt2 (h.two r hr).2⟩
theorem below_ok {H : Heap} {v xv : Value} {cs : List Value} {p : Prg} {x : List Rat} {r : List Rat × Int × Rat} {N : Nat} (hp : ProgV N H v p) (hx : SlV (RatP N) 3 H xv x) (hr : RowP N H cs r) (hlen : p.rows.length ≤ 1048576) :
  Fn Tryz.prog 10 #[v, xv, .agg (List.toArray cs)] H (fun v H' => Heap.le H H' ∧ v = .bool true) := by
 obtain ⟨fv, rv0, rfl, hfv, hrv0⟩ := id hp
 obtain ⟨Af, cf, xf, rfl, hrF, hxF⟩ := hfv.one
 obtain ⟨Ar, cr, xr, rfl, hcr, hrR, hxR⟩ := id hrv0
 obtain ⟨Ax, cx, xx, rfl, hcx, hrx, hex⟩ := id hx
 obtain ⟨A0, c0, k0, f, A1, m1, c1, A2, m2, c2, rfl, hk0⟩ := hr.cells; refine fn_intro (args := [_, _, _]) Tryz.func10 rfl rfl Tryz.ntmps10 rfl rfl fun w0 => ?_; refine vc_keep [0, 1, 2] rfl ?_; refine vc_sr ?_; refine vco_box rfl rfl ?_; refine vco_box rfl rfl ?_; refine vr 1 ?_; refine vco_k [1, 3, 5] ?_; refine vc_seq ?_; refine vc_sr ?_; refine vco_call rfl rfl (sane3_ok) ?_; rintro _ H1 ⟨hl1, rfl⟩; refine vr 1 ?_; refine vco_k [1, 3, 5, 13] ?_; refine vc_cond_f rfl ?_; refine vc_skip ?_; refine vc_keep [1, 3, 5] rfl ?_; refine vc_sd .drawB [0, 1, 2, 3, 5, 4, 6, 7, 8, 9, 10] follows (by kernel_rfl) ?_; refine vr 5 ?_; refine vco_append Tryz.underlying23 el63 rfl rfl (own_nil H1 63 5) (hrR.le hl1) hxR.len (hxR.ones (oneRow N) (by decide)) (by omega) (by omega) ?_; intro v2 H2 ha2; have hG2 := (gro_nil (P := RowP N) (e := 63) (sz := 5) H1).append (rowUp N) (k := p.rows) (by simp) ha2 (by rw [blk_nil, rem_nil]; exact hxR.mono fun vs a => rowUp N _ _ vs a hl1); rw [List.nil_append, List.nil_append] at hG2; refine vco_build Tryz.underlying23 el63 rfl rfl rfl rfl rfl rfl rfl ?_; intro gd hgd; have hG3 := hG2.ins (rowUp N) (whole (cellsL [.agg #[.slice A0 k0 c0, .int .i64 r.2.1, .bool f, .slice A1 m1 c1, .slice A2 m2 c2]]) 63) hgd; refine vco_append Tryz.underlying23 el63 rfl rfl hG3.own (rd_ins _ _ _ _ _ _) rfl (one_row _ _ _ _ _ _ _ _ _ _ _) (by omega) (by omega) ?_; intro v4 H4 ha4; have hG4 := hG3.append (rowUp N) (k := [r]) (by simp) ha4 (els_one (rowUp N _ _ _ _ hG3.base (rowUp N _ _ _ _ hl1 hr)) rfl)
 obtain ⟨W, cw, rfl⟩ := hG4.form; have hQ : ProgV N H4 (.agg #[.slice Af p.free.length cf, .slice W (p.rows ++ [r]).length cw]) (addR p r) := ⟨_, _, rfl, hfv.le boolUp (hl1.trans hG4.le), hG4.sl (rowUp N)⟩; have hl4 := hG4.le; have h04 := hl1.trans hl4; refine vco_st tbOk rfl el25 rfl rfl ?_; refine vco_alloc el25 rfl ?_; obtain ⟨ti, hti, htz⟩ := sz25; refine vco_bstore (.inl ⟨rfl, rfl⟩) rfl rfl rfl hti htz rfl rfl rfl ?_; refine vco_k [1, 3, 7] ?_; refine vc_seq ?_; refine vc_sr ?_; refine vr 1 ?_; refine vco_call rfl rfl (kept3_ok hQ (slV_nil (P := VecP N))) ?_; rintro _ H5 ⟨e5, b5, rfl, hb5⟩; rw [e5]
 cases b5
 ·
  skip
  refine vr 6 ?_; refine vco_k [1, 3, 7, 30] ?_; refine vc_cond_t rfl ?_; refine vc_sr ?_; refine vr 1 ?_; refine vco_k [6] ?_; refine vc_ret ⟨.inr rfl, _, .tmp rfl (.nil), ?_⟩; exact ⟨h04, rfl⟩
 ·
  skip
  refine vr 3 ?_; refine vco_call rfl rfl (kRats_ok (n := 5) (hx.le (ratUp N) h04) (by decide)) ?_; rintro _ H6 ⟨e6, b6, rfl, hb6⟩; rw [e6]; refine vr 2 ?_; refine vco_k [1, 3, 7, 30] ?_; refine vc_cond rfl (fun hb => ?_) (fun hb => ?_)
  ·
   skip
   refine vc_sr ?_; refine vr 1 ?_; refine vco_k [6] ?_; refine vc_ret ⟨.inr rfl, _, .tmp rfl (.nil), ?_⟩; exact ⟨h04, rfl⟩
  ·
   have hk := hb5 rfl; obtain ⟨hx5, hx2⟩ := hb6 (by simpa using hb); have hn4 : p.free.length ≤ 4 := hk.sml.cols
   have hm5 : p.rows.length ≤ 5 := by have h9 : (p.rows ++ [r]).length ≤ 5 := hk.sml.rows; rw [List.length_append] at h9; omega
   have hq2 := hk.sml.prog
   have hp2 : ProgV 2 H4 (.agg #[.slice Af p.free.length cf, .slice Ar p.rows.length cr]) p := by
    obtain ⟨fv9, rv9, e9, hf9, A9, c9, x9, e8, hc9, hr9, he9⟩ := id hq2
    simp only [Value.agg.injEq, Array.mk.injEq] at e9
    obtain ⟨rfl, rfl⟩ := e9
    simp only [Value.slice.injEq] at e8
    obtain ⟨rfl, _, rfl⟩ := e8; have hu := rd_uniq hr9 hG4.own.rd (by rw [he9.len, hG4.own.1]; rfl); rw [hu] at he9; exact ⟨_, _, rfl, hf9, ⟨_, _, xr, rfl, hcr, hrR.le h04, els_left (k := [r]) he9 hxR.len⟩⟩
   refine vc_skip ?_; refine vc_keep [1, 3, 7] rfl ?_; refine vc_sr ?_; refine vr 1 ?_; refine vco_call rfl rfl (least_ok (N := 2) (l := lcf p) hp2 (by decide) (fun hok => hp2.lsz hok hn4 hm5)) ?_; rintro _ H6 ⟨hl6, B6, k6, d6, er, rfl, hcs6⟩; refine vr 5 ?_; refine vco_k [1, 3, 7, 8, 9] ?_; refine vc_seq ?_; refine vc_sr ?_; refine vr 2 ?_; refine vco_k [1, 3, 7, 8, 37] ?_; refine vc_cond rfl (fun hb => ?_) (fun hb => ?_)
   ·
    skip
    refine vc_sr ?_; refine vr 1 ?_; refine vco_k [6] ?_; refine vc_ret ⟨.inr rfl, _, .tmp rfl (.nil), ?_⟩; exact ⟨h04.trans hl6, rfl⟩
   ·
    have her : er = 0 := by simpa using hb
    obtain ⟨_, h9, _⟩ | ⟨_, _, h9, _⟩ | ⟨_, _, _, h9, _⟩ | ⟨hok, hfr, _, y, hy, hys⟩ := hcs6
    · omega
    · omega
    · omega
    obtain ⟨A9, c9, _, e9, _⟩ := id hys
    cases e9
    have hpy : PFeas p y := ⟨hok, hy.len, hy.meets⟩; have hp6 := (hp2.le hl6).mono (show 2 ≤ KX by decide); have hyl := hy.len; refine vc_skip ?_; refine vc_keep [1, 3, 7, 8] rfl ?_; refine vc_seq ?_; refine vc_sr ?_; refine vr 2 ?_; refine vco_call rfl rfl (Feasible_ok (N := KX) hp6 hys (by omega) (by decide)) ?_; rintro _ H7 ⟨hl7, b7, rfl, hb7⟩; obtain rfl : b7 = true := hb7.2 hpy; refine vr 4 ?_; refine vco_call rfl rfl (Feasible_ok (N := 2) ((hp2.le hl6).le hl7) ((hx2.le (ratUp 2) hl6).le (ratUp 2) hl7) (by omega) (by decide)) ?_; rintro _ H8 ⟨hl8, b8, rfl, hb8⟩; have h08 := h04.trans (hl6.trans (hl7.trans hl8))
    cases b8
    ·
     have h09 := h08; have l89 := Heap.le.refl H8; refine vr 7 ?_; refine vco_k [7, 8, 52] ?_; refine vc_cond_f rfl ?_; refine vc_skip ?_; refine vc_keep [7, 8] rfl ?_; refine vc_seq ?_; have l69 := hl7.trans (hl8.trans l89); have hq6 := (hq2.le hl6).le l69; refine vc_sr ?_; refine vr 2 ?_; refine vco_call rfl rfl (Feasible_ok (N := KX) (hq6.mono (by decide)) (hys.le (ratUp KX) l69) (by omega) (by decide)) ?_; rintro _ H10 ⟨hl10, b10, rfl, hb10⟩; refine vr 1 ?_; refine vco_k [7, 8, 56] ?_; refine vc_cond rfl (fun hb => ?_) (fun hb => ?_)
     ·
      skip
      refine vc_sr ?_; refine vr 1 ?_; refine vco_k [6] ?_; refine vc_ret ⟨.inr rfl, _, .tmp rfl (.nil), ?_⟩; exact ⟨h09.trans hl10, rfl⟩
     ·
      have hqy := hb10.1 (by simpa using hb); have hn4q : (addR p r).free.length ≤ 4 := hn4; have hm5q : (addR p r).rows.length ≤ 5 := hk.sml.rows; refine vc_skip ?_; refine vc_keep [7, 8] rfl ?_; refine vc_sr ?_; refine vr 1 ?_; refine vco_call rfl rfl (least_ok (N := 2) (l := lcf (addR p r)) (hq6.le hl10) (by decide) (fun hok => (hq6.le hl10).lsz hok hn4q hm5q)) ?_; rintro _ H11 ⟨hl11, B11, k11, d11, e11, rfl, hcs11⟩; obtain ⟨h9, _⟩ | ⟨_, h9, _⟩ | ⟨_, _, h9, _⟩ | ⟨hok11, _, rfl, z, hz11, hzs⟩ := hcs11
      · exact absurd hqy.ok h9
      · exact absurd h9 hfr
      · exact absurd hqy.meets (h9 _)
      obtain ⟨A11, c11, _, e12, _⟩ := id hzs
      cases e12
      have hyz : z = y := (lexMin_unique hy hz11 rfl hqy.meets (addR_meets hz11.meets)).symm; subst hyz; refine vr 5 ?_; refine vco_k [8, 10, 11] ?_; refine vc_sr ?_; refine vr 5 ?_; refine vco_call rfl rfl (sameRats_ok (N := KX) (((hys.le (ratUp KX) l69).le (ratUp KX) hl10).le (ratUp KX) hl11) hzs (by omega) (by decide)) ?_; rintro _ H12 ⟨hl12, rfl⟩; refine vr 2 ?_; refine vco_k [6] ?_; refine vc_ret ⟨.inr rfl, _, .tmp rfl (.nil), ?_⟩; exact ⟨h09.trans (hl10.trans (hl11.trans hl12)), rfl⟩
    ·
     skip
     refine vr 3 ?_; refine vco_call rfl rfl (before_ok (N := KX) (((hys.le (ratUp KX) hl7).le (ratUp KX) hl8)) ((((hx2.le (ratUp 2) hl6).le (ratUp 2) hl7).le (ratUp 2) hl8).mono fun _ _ h => RatP.mono h (by decide)) (by omega) (lexLe_at (hy.least _ (hb8.1 rfl).meets) hy.len (hb8.1 rfl).len) (by decide)) ?_; rintro _ H9 ⟨l89, z, rfl, hz9⟩; have h09 := h08.trans l89; refine vco_cmp false rfl rfl (cgt_f hz9) ?_; refine vr 2 ?_; refine vco_k [7, 8, 52] ?_; refine vc_cond_f rfl ?_; refine vc_skip ?_; refine vc_keep [7, 8] rfl ?_; refine vc_seq ?_; have l69 := hl7.trans (hl8.trans l89); have hq6 := (hq2.le hl6).le l69; refine vc_sr ?_; refine vr 2 ?_; refine vco_call rfl rfl (Feasible_ok (N := KX) (hq6.mono (by decide)) (hys.le (ratUp KX) l69) (by omega) (by decide)) ?_; rintro _ H10 ⟨hl10, b10, rfl, hb10⟩; refine vr 1 ?_; refine vco_k [7, 8, 56] ?_; refine vc_cond rfl (fun hb => ?_) (fun hb => ?_)
     ·
      skip
      refine vc_sr ?_; refine vr 1 ?_; refine vco_k [6] ?_; refine vc_ret ⟨.inr rfl, _, .tmp rfl (.nil), ?_⟩; exact ⟨h09.trans hl10, rfl⟩
     ·
      have hqy := hb10.1 (by simpa using hb); have hn4q : (addR p r).free.length ≤ 4 := hn4; have hm5q : (addR p r).rows.length ≤ 5 := hk.sml.rows; refine vc_skip ?_; refine vc_keep [7, 8] rfl ?_; refine vc_sr ?_; refine vr 1 ?_; refine vco_call rfl rfl (least_ok (N := 2) (l := lcf (addR p r)) (hq6.le hl10) (by decide) (fun hok => (hq6.le hl10).lsz hok hn4q hm5q)) ?_; rintro _ H11 ⟨hl11, B11, k11, d11, e11, rfl, hcs11⟩; obtain ⟨h9, _⟩ | ⟨_, h9, _⟩ | ⟨_, _, h9, _⟩ | ⟨hok11, _, rfl, z, hz11, hzs⟩ := hcs11
      · exact absurd hqy.ok h9
      · exact absurd h9 hfr
      · exact absurd hqy.meets (h9 _)
      obtain ⟨A11, c11, _, e12, _⟩ := id hzs
      cases e12
      have hyz : z = y := (lexMin_unique hy hz11 rfl hqy.meets (addR_meets hz11.meets)).symm; subst hyz; refine vr 5 ?_; refine vco_k [8, 10, 11] ?_; refine vc_sr ?_; refine vr 5 ?_; refine vco_call rfl rfl (sameRats_ok (N := KX) (((hys.le (ratUp KX) l69).le (ratUp KX) hl10).le (ratUp KX) hl11) hzs (by omega) (by decide)) ?_; rintro _ H12 ⟨hl12, rfl⟩; refine vr 2 ?_; refine vco_k [6] ?_; refine vc_ret ⟨.inr rfl, _, .tmp rfl (.nil), ?_⟩; exact ⟨h09.trans (hl10.trans (hl11.trans hl12)), rfl⟩
end Go.Eng
