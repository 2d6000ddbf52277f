/- Walks over package lexico, part 2: extend, refusal. -/
import Derived.Test.YtfjncmjbhfdnpaaGreatA10
import Derived.Test.YtfjncmjbhfdnpaaGreatLx1
import Derived.Test.YtfjncmjbhfdnpaaGreatGrw3
set_option linter.unusedVariables false
namespace Go.Eng
open Go.Proofs Num Lp
def ZF (x : List Rat × Rat) : List Rat × Int × Rat := (x.1, 2, x.2)
theorem extP_rows (p : Prg) (os : List (List Rat)) (vs : List Rat) : (extP p os vs).rows = p.rows ++ (os.zip vs).map ZF := rfl
/-- Which error the arguments have. -/
def LexE (p : Prg) (os : List (List Rat)) (e : Int) : Prop := (¬ p.Ok ∧ e = 1) ∨ (p.Ok ∧ (¬ ∀ o, o ∈ os → o.length = p.free.length) ∧ e = 21) ∨ (p.Ok ∧ (∀ o, o ∈ os → o.length = p.free.length) ∧ (40 < os.length ∨ 800 < p.rows.length + os.length) ∧ e = 9) ∨ (LexFine p os ∧ e = 0)
theorem lexE_unique {p : Prg} {os : List (List Rat)} {e e' : Int} (h : LexE p os e) (h' : LexE p os e') : e = e' := by
  rcases h with ⟨h1, h2⟩ | ⟨h1, h2, h3⟩ | ⟨h1, h2, h3, h4⟩ | ⟨h1, h2⟩ <;> rcases h' with ⟨k1, k2⟩ | ⟨k1, k2, k3⟩ | ⟨k1, k2, k3, k4⟩ | ⟨k1, k2⟩ <;>
    first | omega | exact absurd k1 h1 | exact absurd h1 k1 | exact absurd k1.ok h1 | exact absurd h1.ok k1 | exact absurd k2 h2 | exact absurd h2 k2 | exact absurd k1.vec h2 | exact absurd h1.vec k2 | (have a1 := k1.lev; have a2 := k1.rows; omega) | (have a1 := h1.lev; have a2 := h1.rows; omega)
theorem LexE.fine {p : Prg} {os : List (List Rat)} (h : LexE p os 0) : LexFine p os := by
  rcases h with ⟨_, h⟩ | ⟨_, _, h⟩ | ⟨_, _, _, h⟩ | ⟨h, _⟩
  · cases h
  · cases h
  · cases h
  · exact h
theorem extend_ok {gs : List Nat} {H : Heap} {v ov : Value} {Av : Option Addr} {cv : Nat} {xv : List Value} {p : Prg} {os : List (List Rat)} {vs : List Rat} {N : Nat} (hlv : ∀ q, q ∈ gs → H q ≠ none) (hp : ProgV N (rem H gs) v p) (ho : LsV N (rem H gs) ov os) (hrv : Rd H Av xv) (hev : Els (RatP N (rem H gs)) 3 xv vs) (hvl : vs.length ≤ os.length) (hn4 : p.free.length ≤ 400) (hm8 : p.rows.length ≤ 800) (hr4 : ∀ r, r ∈ p.rows → r.1.length ≤ 1000) (ho4 : ∀ o, o ∈ os → o.length ≤ 1000) (hv8 : vs.length ≤ 800) (hN : (N : Int) ≤ 1099511627776) :
  Fn Tryz.prog 73 #[v, ov, .slice Av vs.length cv] H (fun v' H' => Frz gs H H' ∧ ∃ A1 k1 c1 A2 k2 c2, v' = .agg #[.slice A1 k1 c1, .slice A2 k2 c2] ∧ ProgV (N + 2) (rem H' gs) v' (extP p os vs)) := by
 obtain ⟨fv, rv0, rfl, hfv, hrv0⟩ := id hp
 obtain ⟨Af, cf, xf, rfl, hrF, hxF⟩ := hfv.one
 obtain ⟨Ar, cr, xr, rfl, hcr, hrR, hxR⟩ := id hrv0
 obtain ⟨Ao, co, xo, rfl, hco, hro, hxo⟩ := id ho; refine fn_intro (args := [_, _, _]) Tryz.func73 rfl rfl Tryz.ntmps73 rfl rfl fun w0 => ?_; refine vc_keep [0, 1, 2] rfl ?_; refine vc_sr ?_; refine vco_box rfl rfl ?_; refine vco_alloc el25 rfl ?_; refine vco_k [1, 2, 3, 6] ?_; refine vc_sr ?_; refine vr 2 ?_; refine vco_call rfl rfl (Fn.frame hlv (clone_ok hfv (by omega))) ?_; rintro _ H1 ⟨⟨hl1, hfc⟩, hs1⟩; obtain ⟨E1, d1, _, rfl, _⟩ := id hfc
 have hlv1 : ∀ q, q ∈ gs → H1 q ≠ none := fun q hq => by rw [hs1 q hq]; exact hlv q hq
 have hle1 : Heap.le H H1 := (groX_nil (α := Bool) (P := BoolP) (e := 0) (sz := 1) hlv).step boolUp (fun q hq => hs1 q (by rw [blk_nil, List.append_nil] at hq; exact hq)) (by rw [blk_nil, List.append_nil]; exact hl1) |>.le; refine vco_st tbOk rfl el25 rfl rfl ?_; refine vco_alloc el25 rfl ?_; obtain ⟨ti, hti, htz⟩ := sz25; refine vco_bstore (.inl ⟨rfl, rfl⟩) rfl rfl rfl hti htz rfl rfl rfl ?_; refine vco_k [1, 2, 3, 6, 7] ?_; refine vc_seq ?_; refine vc_sr ?_; refine vr 4 ?_; refine vco_k [1, 2, 6, 7, 17, 18, 19] ?_; refine vc_block ?_; refine vc_loop3 (fun (i : Nat) (w : Value) (ys : List Value) => p.rows.length - i) (fun (i : Nat) (w : Value) (ys : List Value) => put (put (put (put (put (put (put (emp) 1 (.val (.slice Ao os.length co))) 2 (.val (.slice Av vs.length cv))) 6 (.box [.slice none 0 0, .slice none 0 0])) 7 (.box [.slice E1 p.free.length d1, w])) 17 (.val (.slice Ar p.rows.length cr))) 18 (.val (.int .i64 (p.rows.length : Int)))) 19 (.val (.int .i64 (i : Int)))) (fun (i : Nat) (w : Value) (ys : List Value) H' => GroX gs H1 (RowP (N + 2)) 78 5 H' w (p.rows.take i) ys ∧ i ≤ p.rows.length) 0 (.slice none 0 0) [] (⟨groX_nil hlv1, Nat.zero_le _⟩) sub_auto ?_; rintro i w ys H2 ⟨hG, hi⟩; obtain ⟨W, cw, rfl⟩ := hG.form
 have htl : (p.rows.take i).length = i := by rw [List.length_take]; omega
 have hb2 := hl1.trans hG.base; refine vc_sr ?_; refine vr 1 ?_; refine vco_k [1, 2, 6, 7, 17, 18, 19, 20] ?_; refine vc_seq ?_; refine vc_cond rfl (fun hb => ?_) (fun hb => ?_)
 ·
  have him : i < p.rows.length := by simpa using hb
  obtain ⟨r, hr⟩ : ∃ r, p.rows[i]? = some r := ⟨_, List.getElem?_eq_getElem him⟩; have hr5 := hr4 r (List.mem_of_getElem? hr); obtain ⟨A0, c0, f, A1, m1, c1, A2, m2, c2, hsg, hsl, hraw, hrx⟩ := SlV.segR hxR hr; have hzb := hraw.size; refine vc_skip ?_; refine vc_keep [1, 2, 6, 7, 17, 18, 19] rfl ?_; refine vc_seq ?_; refine vc_block ?_; refine vc_sr ?_; refine vco_at_st (vs := [.slice A0 r.1.length c0, .int .i64 r.2.1, .bool f, .slice A1 m1 c1, .slice A2 m2 c2]) tbOk rfl rfl rfl rfl ((hrR.le hb2).le (rem_le _ _)) rfl (by decide) hrx (by omega) (by omega) fun _ => ?_; refine vco_alloc el78 rfl ?_; obtain ⟨ti, hti, htz⟩ := sz78; refine vco_bstore (.inl ⟨rfl, rfl⟩) rfl rfl rfl hti htz rfl rfl rfl ?_; refine vco_k [1, 2, 6, 7, 9, 17, 18, 19] ?_; refine vc_draw .drawB [0, 1, 2, 3, 5, 6, 7, 8, 4, 9, 10, 11, 12, 13, 14] follows (by kernel_rfl) ?_; refine vr 8 ?_; refine vco_callM rfl rfl (hG.call (lcan_ok (hsl.le (ratUp N) hb2) (by omega) (by omega))) (fun _ _ h => h.le fun _ _ h => h.1) ?_; rintro _ H5 hF5; have hG5 := hG.framed (rowUp (N + 2)) hF5 fun _ _ h => h.1; obtain ⟨⟨_, A5, c5, rfl, hs5⟩, _⟩ := hF5; refine vco_callM rfl rfl (hG5.call (Canonical_ok (hraw.le (hl1.trans hG5.base)) (by omega))) (fun _ _ h => h.le fun _ _ h => h.1) ?_; rintro _ H6 hF6; have hG6 := hG5.framed (rowUp (N + 2)) hF6 fun _ _ h => h.1; obtain ⟨⟨hl56, hq6⟩, _⟩ := hF6; obtain ⟨f6, A61, m61, c61, A62, m62, c62, rfl⟩ := hq6.form; have hRow : RowP (N + 2) (rem H6 (gs ++ blk (.slice W (p.rows.take i).length cw))) [.slice A5 r.1.length c5, .int .i64 r.2.1, .bool f6, .slice A61 m61 c61, .slice A62 m62 c62] r := ⟨_, _, _, _, rfl, hs5.le (ratUp (N + 2)) hl56, (CanV.raw hq6).mono (by omega)⟩
  refine vco_st tbOk rfl el78 rfl rfl ?_; refine vco_build Tryz.underlying23 el78 rfl rfl rfl rfl rfl rfl rfl ?_; intro gd hgd; have hG7 := hG6.ins (rowUp (N + 2)) (whole (cellsL [.agg #[.slice A5 r.1.length c5, .int .i64 r.2.1, .bool f6, .slice A61 m61 c61, .slice A62 m62 c62]]) 78) hgd; refine vco_append Tryz.underlying23 el78 rfl rfl hG7.own (rd_ins _ _ _ _ _ _) rfl (one_row _ _ _ _ _ _ _ _ _ _ _) (by rw [htl]; omega) (by rw [htl]; omega) ?_; intro v8 H8 ha8; have hG8 := hG7.append (rowUp (N + 2)) (j := [r]) (by simp) ha8 (els_one (rowUp (N + 2) _ _ _ _ (rem_mono _ (Heap.le_ins _ hgd)) hRow) rfl); obtain ⟨F8, g8, rfl⟩ := hG8.form; refine vr 1 ?_; obtain ⟨ti, hti, htz⟩ := sz23; refine vco_bstore (.inr rfl) rfl rfl rfl hti htz rfl rfl rfl ?_; refine vco_end ?_; refine vc_keep [1, 2, 6, 7, 17, 18, 19] rfl ?_; refine vc_region rfl ?_; refine vco_add rfl rfl ⟨by omega, by omega⟩ ?_; refine vr 1 ?_; refine vco_end ?_; exact ⟨i + 1, _, _, by omega, sub_auto, by rw [take_snoc hr]; exact hG8, by omega⟩
 ·
  have hb : p.rows.length ≤ i := by simpa using hb
  obtain rfl : i = p.rows.length := by omega
  rw [List.take_length] at hG; rw [List.take_length]; refine vc_exit ?_; refine vc_keep [1, 2, 6, 7] rfl ?_; refine vc_seq ?_; refine vc_sr ?_; refine vr 3 ?_; refine vco_k [1, 6, 7, 38, 39, 40] ?_; refine vc_block ?_; refine vc_loop3 (fun (i : Nat) (w : Value) (zs : List Value) => vs.length - i) (fun (i : Nat) (w : Value) (zs : List Value) => put (put (put (put (put (put (emp) 1 (.val (.slice Ao os.length co))) 6 (.box [.slice none 0 0, .slice none 0 0])) 7 (.box [.slice E1 p.free.length d1, w])) 38 (.val (.slice Av vs.length cv))) 39 (.val (.int .i64 (vs.length : Int)))) 40 (.val (.int .i64 (i : Int)))) (fun (i : Nat) (w : Value) (zs : List Value) H' => GroX gs H1 (RowP (N + 2)) 78 5 H' w (p.rows ++ ((os.zip vs).map ZF).take i) zs ∧ i ≤ vs.length) 0 _ _ (⟨by rw [List.take_zero, List.append_nil]; exact hG, Nat.zero_le _⟩) sub_auto ?_; rintro i w zs H3 ⟨hG, hi⟩; obtain ⟨W, cw, rfl⟩ := hG.form
  have htl : (p.rows ++ ((os.zip vs).map ZF).take i).length = p.rows.length + i := by rw [List.length_append, List.length_take, List.length_map, List.length_zip]; omega
  have hb2 := hl1.trans hG.base; refine vc_sr ?_; refine vr 1 ?_; refine vco_k [1, 6, 7, 38, 39, 40, 41] ?_; refine vc_seq ?_; refine vc_cond rfl (fun hb => ?_) (fun hb => ?_)
  ·
   have hiv : i < vs.length := by simpa using hb
   obtain ⟨q, hq⟩ : ∃ q, vs[i]? = some q := ⟨_, List.getElem?_eq_getElem hiv⟩; obtain ⟨o, hoi⟩ : ∃ o, os[i]? = some o := ⟨_, List.getElem?_eq_getElem (by omega)⟩
   have hz : ((os.zip vs).map ZF)[i]? = some (o, 2, q) := by rw [List.getElem?_map, zip_get hoi hq]; rfl
   have ho5 := ho4 o (List.mem_of_getElem? hoi); obtain ⟨f1, B1, k1, e1, B2, k2, e2, hsg, hraw, hqx⟩ := SlV.seg3 hev hq; obtain ⟨Bo, cb, hbx, hsl⟩ := vec_get hxo hoi; have hzb := hraw.size; refine vc_skip ?_; refine vc_keep [1, 6, 7, 38, 39, 40] rfl ?_; refine vc_seq ?_; refine vc_block ?_; refine vc_sr ?_; refine vr 1 ?_; refine vco_at_st (vs := [.bool f1, .slice B1 k1 e1, .slice B2 k2 e2]) tbOk rfl rfl rfl rfl (hrv.le (hle1.trans hG.le)) rfl (by decide) hqx (by omega) (by omega) fun _ => ?_; refine vco_alloc el31 rfl ?_; refine vr 1 ?_; obtain ⟨ti, hti, htz⟩ := sz31; refine vco_bstore (.inl ⟨rfl, rfl⟩) rfl rfl rfl hti htz rfl rfl rfl ?_; refine vco_k [1, 6, 7, 10, 11, 38, 39, 40] ?_; refine vc_draw .drawB [0, 1, 2, 3, 4, 5, 7, 6, 8, 9, 10, 11, 12, 13] follows (by kernel_rfl) ?_; refine vr 4 ?_; refine vco_at tbOk rfl rfl rfl rfl rfl ((hro.le hb2).le (rem_le _ _)) (by rw [Int.toNat_natCast]; exact hbx) (by omega) (by omega) fun _ => ?_; refine vr 1 ?_; refine vco_callM rfl rfl (hG.call (lcan_ok (hsl.le (ratUp N) hb2) (by omega) (by omega))) (fun _ _ h => h.le fun _ _ h => h.1) ?_; rintro _ H5 hF5; have hG5 := hG.framed (rowUp (N + 2)) hF5 fun _ _ h => h.1; obtain ⟨⟨_, A5, c5, rfl, hs5⟩, _⟩ := hF5; refine vco_callM rfl rfl (hG5.call (Canonical_ok (hraw.le (hl1.trans hG5.base)) (by omega))) (fun _ _ h => h.le fun _ _ h => h.1) ?_; rintro _ H6 hF6; have hG6 := hG5.framed (rowUp (N + 2)) hF6 fun _ _ h => h.1; obtain ⟨⟨hl56, hq6⟩, _⟩ := hF6
   obtain ⟨f6, A61, m61, c61, A62, m62, c62, rfl⟩ := hq6.form; have hRow : RowP (N + 2) (rem H6 (gs ++ blk (.slice W (p.rows ++ ((os.zip vs).map ZF).take i).length cw))) [.slice A5 o.length c5, .int .i64 2, .bool f6, .slice A61 m61 c61, .slice A62 m62 c62] (o, 2, q) := ⟨_, _, _, _, rfl, hs5.le (ratUp (N + 2)) hl56, (CanV.raw hq6).mono (by omega)⟩; refine vco_st tbOk rfl el78 rfl rfl ?_; refine vco_build Tryz.underlying23 el78 rfl rfl rfl rfl rfl rfl rfl ?_; intro gd hgd; have hG7 := hG6.ins (rowUp (N + 2)) (whole (cellsL [.agg #[.slice A5 o.length c5, .int .i64 2, .bool f6, .slice A61 m61 c61, .slice A62 m62 c62]]) 78) hgd; refine vco_append Tryz.underlying23 el78 rfl rfl hG7.own (rd_ins _ _ _ _ _ _) rfl (one_row _ _ _ _ _ _ _ _ _ _ _) (by rw [htl]; omega) (by rw [htl]; omega) ?_; intro v8 H8 ha8; have hG8 := hG7.append (rowUp (N + 2)) (j := [(o, 2, q)]) (by simp) ha8 (els_one (rowUp (N + 2) _ _ _ _ (rem_mono _ (Heap.le_ins _ hgd)) hRow) rfl); obtain ⟨F8, g8, rfl⟩ := hG8.form; refine vr 1 ?_; obtain ⟨ti, hti, htz⟩ := sz23; refine vco_bstore (.inr rfl) rfl rfl rfl hti htz rfl rfl rfl ?_; refine vco_end ?_; refine vc_keep [1, 6, 7, 38, 39, 40] rfl ?_; refine vc_region rfl ?_; refine vco_add rfl rfl ⟨by omega, by omega⟩ ?_; refine vr 1 ?_; refine vco_end ?_; exact ⟨i + 1, _, _, by omega, sub_auto, by rw [take_snoc hz, ← List.append_assoc]; exact hG8, by omega⟩
  ·
   have hb : vs.length ≤ i := by simpa using hb
   obtain rfl : i = vs.length := by omega
   have hzl : ((os.zip vs).map ZF).length = vs.length := by rw [List.length_map, List.length_zip]; omega
   have hR := hG.sl (rowUp (N + 2)); have e9 : ((os.zip vs).map ZF).take vs.length = (os.zip vs).map ZF := List.take_of_length_le (by omega); rw [e9] at hR ⊢; have hout := hG.out; refine vc_exit ?_; refine vc_keep [6, 7] rfl ?_; refine vc_sr ?_; refine vr 1 ?_; obtain ⟨ti, hti, htz⟩ := sz25; refine vco_bstore (.inl ⟨rfl, rfl⟩) rfl rfl rfl hti htz rfl rfl rfl ?_; refine vco_k [6] ?_; obtain ⟨ri0, rhi0, rhz0⟩ := sz25; refine vc_ret ⟨.inr rfl, _, .agg rfl Tryz.underlying25 rhi0 rhz0 (.nil), ?_⟩; exact ⟨⟨fun q hq => (hG.same q hq).trans (hs1 q hq), hl1.trans hout⟩, _, _, _, _, _, _, rfl, _, _, rfl, hfc.le boolUp hout, by rw [extP_rows]; exact hR⟩
theorem refusal_ok {H : Heap} {v ov : Value} {p : Prg} {os : List (List Rat)} {N : Nat} (hp : ProgV N H v p) (ho : LsV N H ov os) (hol : os.length ≤ 9223372036854775807) :
  Fn Tryz.prog 71 #[v, ov] H (fun v' H' => H' = H ∧ ∃ e, v' = .int .i64 e ∧ LexE p os e) := by
 obtain ⟨fv, rv0, rfl, hfv, hrv0⟩ := id hp
 obtain ⟨Af, cf, xf, rfl, hrF, hxF⟩ := hfv.one
 obtain ⟨Ar, cr, xr, rfl, hcr, hrR, hxR⟩ := id hrv0
 obtain ⟨Ao, co, xo, rfl, hco, hro, hxo⟩ := id ho; refine fn_intro (args := [_, _]) Tryz.func71 rfl rfl Tryz.ntmps71 rfl rfl fun w0 => ?_; refine vc_keep [0, 1] rfl ?_; refine vc_sr ?_; refine vco_box rfl rfl ?_; refine vr 1 ?_; refine vco_k [1, 2] ?_; refine vc_seq ?_; refine vc_block ?_; refine vc_sr ?_; refine vr 1 ?_; refine vco_call rfl rfl (Valid_ok hp) ?_; rintro _ H1 ⟨e1, b1, rfl, hb1⟩; rw [e1]; refine vr 2 ?_; refine vco_k [1, 2, 5] ?_; refine vc_cond rfl (fun hb => ?_) (fun hb => ?_)
 ·
  have hbf : b1 = false := by simpa using hb
  subst hbf; refine vc_sr ?_; refine vr 1 ?_; refine vco_k [4] ?_; refine vc_ret ⟨.inr rfl, _, .tmp rfl (.nil), ?_⟩; exact ⟨rfl, 1, rfl, .inl ⟨fun h => (by have h9 := hb1.2 h; cases h9), rfl⟩⟩
 ·
  have hbt : b1 = true := by simpa using hb
  have hok := hb1.1 hbt; have hm8 := hok.rows; refine vc_sr ?_; refine vr 2 ?_; refine vco_call rfl rfl (vectors_ok hp ho hol) ?_; rintro _ H2 ⟨e2, b2, rfl, hb2⟩; rw [e2]; refine vr 2 ?_; refine vco_k [1, 2, 9] ?_; refine vc_cond rfl (fun hb => ?_) (fun hb => ?_)
  ·
   have hbf : b2 = false := by simpa using hb
   subst hbf; refine vc_sr ?_; refine vr 1 ?_; refine vco_k [4] ?_; refine vc_ret ⟨.inr rfl, _, .tmp rfl (.nil), ?_⟩; exact ⟨rfl, 21, rfl, .inr (.inl ⟨hok, fun h => (by have h9 := hb2.2 h; cases h9), rfl⟩)⟩
  ·
   have hbt2 : b2 = true := by simpa using hb
   have hvec := hb2.1 hbt2
   by_cases h4 : 40 < os.length
   ·
    skip
    refine vc_sr ?_; refine vr 2 ?_; refine vco_cmp true rfl rfl (cgt_t (by omega)) ?_; refine vr 10 ?_; refine vco_k [14] ?_; refine vc_cond_t rfl ?_; refine vc_sr ?_; refine vr 1 ?_; refine vco_k [4] ?_; refine vc_ret ⟨.inr rfl, _, .tmp rfl (.nil), ?_⟩; exact ⟨rfl, 9, rfl, .inr (.inr (.inl ⟨hok, hvec, .inl h4, rfl⟩))⟩
   ·
    skip
    refine vc_sr ?_; refine vr 2 ?_; refine vco_cmp false rfl rfl (cgt_f (by omega)) ?_; refine vr 6 ?_; refine vco_add rfl rfl ⟨by omega, by omega⟩ ?_; refine vr 3 ?_; refine vco_k [14] ?_; refine vc_cond rfl (fun hb => ?_) (fun hb => ?_)
    ·
     have h8i : (800 : Int) < (p.rows.length : Int) + (os.length : Int) := by simpa using hb
     refine vc_sr ?_; refine vr 1 ?_; refine vco_k [4] ?_; refine vc_ret ⟨.inr rfl, _, .tmp rfl (.nil), ?_⟩; exact ⟨rfl, 9, rfl, .inr (.inr (.inl ⟨hok, hvec, .inr (by omega), rfl⟩))⟩
    ·
     have h8i : (p.rows.length : Int) + (os.length : Int) ≤ 800 := by simpa using hb
     refine vc_skip ?_; refine vc_keep [] rfl ?_; refine vc_sr ?_; refine vr 1 ?_; refine vco_k [4] ?_; refine vc_ret ⟨.inr rfl, _, .tmp rfl (.nil), ?_⟩; exact ⟨rfl, 0, rfl, .inr (.inr (.inr ⟨⟨hok, hvec, by omega, by omega⟩, rfl⟩))⟩
end Go.Eng
