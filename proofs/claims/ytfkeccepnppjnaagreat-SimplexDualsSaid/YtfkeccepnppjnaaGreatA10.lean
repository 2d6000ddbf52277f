/- Part 10 of the proof: Smp1, Mz3, Min, Smp2, Smp3, Smp4, Smp5, Smp6, Smp7. -/
import Derived.Test.YtfkeccepnppjnaaGreatA09
set_option linter.unusedVariables false
/- Walks over package simplex, simplex.go, part 1: Valid. -/
namespace Go.Eng
open Go.Proofs Num Lp
theorem Valid_ok {H : Heap} {v : Value} {p : Prg} {N : Nat} (hp : ProgV N H v p) :
  Fn Tryz.prog 37 #[v] H (fun v H' => H' = H ∧ ∃ b, v = .bool b ∧ (b = true ↔ p.Ok)) := by
 obtain ⟨fv, rv0, rfl, hfv, hrv0⟩ := hp
 obtain ⟨Af, cf, xf, rfl, hrF, hxF⟩ := hfv.one
 obtain ⟨Ar, cr, xr, rfl, hrR, hxR⟩ := hrv0.row
 refine fn_intro (args := [_]) Tryz.func37 rfl rfl Tryz.ntmps37 rfl rfl fun w0 => ?_
 refine vc_keep [0] rfl ?_
 refine vc_sr ?_
 refine vco_box rfl rfl ?_
 refine vco_run tbOk 1 rfl ?_
 refine vco_k [1] ?_
 refine vc_seq ?_
 by_cases h1 : 400 < (p.free.length : Int)
 ·
  skip
  refine vc_sr ?_
  refine vco_run tbOk 3 rfl ?_
  refine vco_cmp true rfl rfl (cgt_t h1) ?_
  refine vco_run tbOk 6 rfl ?_
  refine vco_k [1, 14] ?_
  refine vc_cond_t rfl ?_
  refine vc_sr ?_
  refine vco_run tbOk 1 rfl ?_
  refine vco_k [2] ?_
  refine vc_ret ⟨.inr rfl, _, .tmp rfl (.nil), ?_⟩
  exact ⟨rfl, false, rfl, ⟨(fun h => by cases h), (fun h => by have h8 := h.cols; have h9 := h.rows; omega)⟩⟩
 ·
  skip
  by_cases h2 : 800 < (p.rows.length : Int)
  ·
   skip
   refine vc_sr ?_
   refine vco_run tbOk 3 rfl ?_
   refine vco_cmp false rfl rfl (cgt_f (by omega)) ?_
   refine vco_run tbOk 4 rfl ?_
   refine vco_cmp true rfl rfl (cgt_t h2) ?_
   refine vco_run tbOk 1 rfl ?_
   refine vco_k [1, 14] ?_
   refine vc_cond_t rfl ?_
   refine vc_sr ?_
   refine vco_run tbOk 1 rfl ?_
   refine vco_k [2] ?_
   refine vc_ret ⟨.inr rfl, _, .tmp rfl (.nil), ?_⟩
   exact ⟨rfl, false, rfl, ⟨(fun h => by cases h), (fun h => by have h8 := h.cols; have h9 := h.rows; omega)⟩⟩
  ·
   skip
   refine vc_sr ?_
   refine vco_run tbOk 3 rfl ?_
   refine vco_cmp false rfl rfl (cgt_f (by omega)) ?_
   refine vco_run tbOk 4 rfl ?_
   refine vco_cmp false rfl rfl (cgt_f (by omega)) ?_
   refine vco_run tbOk 1 rfl ?_
   refine vco_k [1, 14] ?_
   refine vc_cond_f rfl ?_
   refine vc_skip ?_
   refine vc_keep [1] rfl ?_
   refine vc_seq ?_
   refine vc_sr ?_
   refine vco_run tbOk 4 rfl ?_
   refine vco_k [1, 16, 17, 18] ?_
   refine vc_block ?_
   refine vc_loop1 (fun (i : Nat) => p.rows.length - i) (fun (i : Nat) => put (put (put (put (emp) 1 (.box [.slice Af p.free.length cf, .slice Ar p.rows.length cr])) 16 (.val (.slice Ar p.rows.length cr))) 17 (.val (.int .i64 (p.rows.length : Int)))) 18 (.val (.int .i64 (i : Int)))) (fun (i : Nat) H' => H' = H ∧ (∀ (k : Nat) (r : List Rat × Int × Rat), k < i → p.rows[k]? = some r → RowOk p.free.length r) ∧ i ≤ p.rows.length) 0 (⟨rfl, (fun k r h => by omega), Nat.zero_le _⟩) sub_auto ?_
   rintro i H1 ⟨e1, hal, hi⟩
   rw [e1]
   refine vc_sr ?_
   refine vco_run tbOk 1 rfl ?_
   refine vco_k [1, 16, 17, 18, 19] ?_
   refine vc_seq ?_
   refine vc_cond rfl (fun hb => ?_) (fun hb => ?_)
   ·
    have him : i < p.rows.length := by simpa using hb
    obtain ⟨r, hr⟩ : ∃ r, p.rows[i]? = some r := ⟨_, List.getElem?_eq_getElem him⟩
    obtain ⟨A0, c0, f, A1, m1, c1, A2, m2, c2, hrp, hrx⟩ := hxR i r hr
    refine vc_skip ?_
    refine vc_keep [1, 16, 17, 18] rfl ?_
    refine vc_seq ?_
    refine vc_block ?_
    refine vc_sr ?_
    refine vco_at_st (vs := [.slice A0 r.1.length c0, .int .i64 r.2.1, .bool f, .slice A1 m1 c1, .slice A2 m2 c2]) tbOk rfl rfl rfl rfl hrR rfl (by decide) hrx (by omega) (by omega) fun _ => ?_
    refine vco_alloc el46 rfl ?_
    obtain ⟨ti, hti, htz⟩ := sz46; refine vco_bstore (.inl ⟨rfl, rfl⟩) rfl rfl rfl hti htz rfl rfl rfl ?_
    refine vco_k [1, 4, 16, 17, 18] ?_
    refine vc_seq ?_
    refine vc_sr ?_
    refine vco_run tbOk 7 rfl ?_
    refine vco_k [1, 4, 16, 17, 18, 28] ?_
    refine vc_cond rfl (fun hb => ?_) (fun hb => ?_)
    ·
     have hb2 : ¬ r.1.length = p.free.length := by simpa [Int.natCast_inj] using hb
     refine vc_sr ?_
     refine vco_run tbOk 1 rfl ?_
     refine vco_k [2] ?_
     refine vc_ret ⟨.inr rfl, _, .tmp rfl (.nil), ?_⟩
     exact ⟨rfl, false, rfl, ⟨(fun h => by cases h), fun h => absurd (h.row i r hr).1 hb2⟩⟩
    ·
     have hb2 : r.1.length = p.free.length := by simpa [Int.natCast_inj] using hb
     refine vc_skip ?_
     refine vc_keep [1, 4, 16, 17, 18] rfl ?_
     by_cases h1 : r.2.1 = 1
     ·
      skip
      refine vc_sr ?_
      refine vco_run tbOk 2 rfl ?_
      refine vco_cmp false rfl rfl (cne_f h1) ?_
      refine vco_run tbOk 10 rfl ?_
      refine vco_k [1, 16, 17, 18, 41] ?_
      refine vc_cond_f rfl ?_
      refine vc_skip ?_
      refine vc_keep [1, 16, 17, 18] rfl ?_
      refine vc_region rfl ?_
      refine vco_add rfl rfl ⟨by omega, by omega⟩ ?_
      refine vco_run tbOk 1 rfl ?_
      refine vco_end ?_
      exact ⟨i + 1, by omega, sub_auto, rfl, (fun k r9 hk hr9 => by by_cases h9 : k < i; exact hal k r9 h9 hr9; (obtain rfl : k = i := by omega); rw [hr] at hr9; cases hr9; exact ⟨hb2, .inl h1⟩), by omega⟩
     ·
      skip
      by_cases h2 : r.2.1 = 2
      ·
       skip
       refine vc_sr ?_
       refine vco_run tbOk 2 rfl ?_
       refine vco_cmp true rfl rfl (cne_t h1) ?_
       refine vco_run tbOk 3 rfl ?_
       refine vco_cmp false rfl rfl (cne_f h2) ?_
       refine vco_run tbOk 6 rfl ?_
       refine vco_k [1, 16, 17, 18, 41] ?_
       refine vc_cond_f rfl ?_
       refine vc_skip ?_
       refine vc_keep [1, 16, 17, 18] rfl ?_
       refine vc_region rfl ?_
       refine vco_add rfl rfl ⟨by omega, by omega⟩ ?_
       refine vco_run tbOk 1 rfl ?_
       refine vco_end ?_
       exact ⟨i + 1, by omega, sub_auto, rfl, (fun k r9 hk hr9 => by by_cases h9 : k < i; exact hal k r9 h9 hr9; (obtain rfl : k = i := by omega); rw [hr] at hr9; cases hr9; exact ⟨hb2, .inr (.inl h2)⟩), by omega⟩
      ·
       skip
       by_cases h3 : r.2.1 = 3
       ·
        skip
        refine vc_sr ?_
        refine vco_run tbOk 2 rfl ?_
        refine vco_cmp true rfl rfl (cne_t h1) ?_
        refine vco_run tbOk 3 rfl ?_
        refine vco_cmp true rfl rfl (cne_t h2) ?_
        refine vco_run tbOk 4 rfl ?_
        refine vco_cmp false rfl rfl (cne_f h3) ?_
        refine vco_run tbOk 1 rfl ?_
        refine vco_k [1, 16, 17, 18, 41] ?_
        refine vc_cond_f rfl ?_
        refine vc_skip ?_
        refine vc_keep [1, 16, 17, 18] rfl ?_
        refine vc_region rfl ?_
        refine vco_add rfl rfl ⟨by omega, by omega⟩ ?_
        refine vco_run tbOk 1 rfl ?_
        refine vco_end ?_
        exact ⟨i + 1, by omega, sub_auto, rfl, (fun k r9 hk hr9 => by by_cases h9 : k < i; exact hal k r9 h9 hr9; (obtain rfl : k = i := by omega); rw [hr] at hr9; cases hr9; exact ⟨hb2, .inr (.inr h3)⟩), by omega⟩
       ·
        skip
        refine vc_sr ?_
        refine vco_run tbOk 2 rfl ?_
        refine vco_cmp true rfl rfl (cne_t h1) ?_
        refine vco_run tbOk 3 rfl ?_
        refine vco_cmp true rfl rfl (cne_t h2) ?_
        refine vco_run tbOk 4 rfl ?_
        refine vco_cmp true rfl rfl (cne_t h3) ?_
        refine vco_run tbOk 1 rfl ?_
        refine vco_k [1, 16, 17, 18, 41] ?_
        refine vc_cond_t rfl ?_
        refine vc_sr ?_
        refine vco_run tbOk 1 rfl ?_
        refine vco_k [2] ?_
        refine vc_ret ⟨.inr rfl, _, .tmp rfl (.nil), ?_⟩
        exact ⟨rfl, false, rfl, ⟨(fun h => by cases h), (fun h => by have h9 := (h.row i r hr).2; omega)⟩⟩
   ·
    have hb : p.rows.length ≤ i := by simpa using hb
    refine vc_exit ?_
    refine vc_keep [] rfl ?_
    refine vc_sr ?_
    refine vco_run tbOk 1 rfl ?_
    refine vco_k [2] ?_
    refine vc_ret ⟨.inr rfl, _, .tmp rfl (.nil), ?_⟩
    exact ⟨rfl, true, rfl, ⟨fun _ => ⟨by omega, by omega, fun k r hr => hal k r (by have h9 := (List.getElem?_eq_some_iff.1 hr).1; omega) hr⟩, fun _ => rfl⟩⟩
end Go.Eng
/- What Minimize returns. -/
namespace Go.Eng
open Go.Proofs Num Lp
/-- A result in memory. -/
def SolV (H : Heap) (v : Value) (S : Soln) : Prop := ∃ f u w xv dv rv, v = .agg #[.int .i64 S.status, .bool f, u, w, xv, dv, rv] ∧ (CanV H (.agg #[.bool f, u, w]) S.value ∨ (S.value = 0 ∧ f = false ∧ u = .slice none 0 0 ∧ w = .slice none 0 0)) ∧ SlV CanP 3 H xv S.x ∧ SlV CanP 3 H dv S.dual ∧ SlV CanP 3 H rv S.ray
theorem SolV.le {H H' : Heap} {v : Value} {S : Soln} (h : SolV H v S) (hl : Heap.le H H') : SolV H' v S := by
  obtain ⟨f, u, w, xv, dv, rv, h1, h2, h3, h4, h5⟩ := h
  exact ⟨f, u, w, xv, dv, rv, h1, h2.imp (fun h => h.le hl) id, h3.le canUp hl, h4.le canUp hl, h5.le canUp hl⟩
def SolZ (M : Nat) (S : Soln) : Prop := ∀ q, q ∈ S.x ∨ q ∈ S.dual ∨ q ∈ S.ray ∨ q = S.value → szQ q ≤ M
def sol0 : Value := .agg #[.int .i64 0, .bool false, .slice none 0 0, .slice none 0 0, .slice none 0 0, .slice none 0 0, .slice none 0 0]
/-- The value and the vector are those of a tableau. -/
def Last (p : Prg) (c : List Rat) (S : Soln) : Prop := S.status = 1 → ∃ T, I2 p c T ∧ S.value = -(T.c p.w) ∧ S.x = vals (Lay.vec p.lay.pF p.lay.mF T.pt) p.lp.n
def MinP (p : Prg) (c : List Rat) (M : Nat) (H : Heap) (v : Value) (H' : Heap) : Prop := Heap.le H H' ∧ ∃ s e, v = .tuple #[s, .int .i64 e] ∧
  ((¬ p.Ok ∧ e = 1 ∧ s = sol0) ∨ (p.Ok ∧ c.length ≠ p.free.length ∧ e = 21 ∧ s = sol0) ∨ (p.Ok ∧ c.length = p.free.length ∧ e = 0 ∧ ∃ S, SolV H' s S ∧ Chk p c S ∧ SolZ (2 * M + 2) S ∧ Last p c S))
theorem slV_nil {H : Heap} {α : Type} {P : Heap → List Value → α → Prop} {sz : Nat} : SlV P sz H (.slice none 0 0) ([] : List α) := ⟨none, 0, [], rfl, Nat.le_refl _, (fun i v h => by simp at h), els_nil⟩
theorem mem_vals {f : Nat → Rat} {n : Nat} {q : Rat} (h : q ∈ vals f n) : ∃ j, j < n ∧ q = f j := by
  unfold vals at h
  obtain ⟨j, hj, e⟩ := List.mem_map.1 h
  exact ⟨j, List.mem_range.1 hj, e.symm⟩
section
variable {p : Prg} {c : List Rat} {M : Nat} {T : Tab} {H K : Heap}
theorem vec_sz {N n : Nat} {z : Nat → Rat} (h0 : 1 ≤ N) (hz : ∀ j, j < p.w → szQ (z j) ≤ N) {j : Nat} (hj : j < p.lp.n) : szQ (Lay.vec p.lay.pF p.lay.mF z j) ≤ 2 * N + 1 := by
  have h1 := szQ_sub (z (p.lay.pF j)) (optv z (p.lay.mF j))
  have h2 := hz _ (lay_tl.pw j hj)
  have h3 : szQ (optv z (p.lay.mF j)) ≤ N := by
    rw [lay_mF hj]
    by_cases hf : p.lp.free j = true
    · rw [if_pos hf]
      have := mnz_lt p hj
      unfold mnz at this
      rw [if_pos hf] at this
      have := c1_u p
      have := u_w p
      exact hz _ (by omega)
    · rw [if_neg hf]; exact Nat.le_trans (show szQ (0 : Rat) ≤ 1 by decide) h0
  unfold Lay.vec; omega
theorem dual_sz {N : Nat} {f g : Nat → Rat} (hf : ∀ j, j < p.w → szQ (f j) ≤ N) (hg : ∀ j, j < p.w → szQ (g j) ≤ N) {i : Nat} (hi : i < p.lp.m) : szQ (p.lay.sF i * (f (p.lay.uF i) - g (p.lay.uF i))) ≤ 2 * N + 2 := by
  have h1 := szQ_mul (p.lay.sF i) (f (p.lay.uF i) - g (p.lay.uF i))
  have h2 := szQ_sub (f (p.lay.uF i)) (g (p.lay.uF i))
  have h3 := lay_tl.s1 i hi
  have h4 := hf _ (lay_tl.uw i hi)
  have h5 := hg _ (lay_tl.uw i hi)
  omega
theorem ret_inf (hok : p.Ok) (hcl : c.length = p.free.length) (hl : Fits p c M) (hle : Heap.le H K) (h : Inv p (pn p) T) (hn : ∀ j, j < p.u → 0 ≤ T.c j) (hneg : T.c p.w < 0) {dv : Value}
    (hd : SlV CanP 3 K dv (vals (fun i => p.lay.sF i * (pn p (p.lay.uF i) - T.c (p.lay.uF i))) p.lp.m)) : MinP p c M H (.tuple #[.agg #[.int .i64 2, .bool false, .slice none 0 0, .slice none 0 0, .slice none 0 0, dv, .slice none 0 0], .int .i64 0]) K := by
  have hz := hl.sz1 _ h
  refine ⟨hle, _, _, rfl, .inr (.inr ⟨hok, hcl, rfl, ⟨2, 0, [], _, []⟩, ⟨_, _, _, _, _, _, rfl, .inr ⟨rfl, rfl, rfl, rfl⟩, slV_nil, hd, slV_nil⟩, .inr (.inl ⟨rfl, rfl, rfl, rfl, hcl, mz_inf hok h hn hneg⟩), fun q hq => ?_, fun e => by cases e⟩)⟩
  rcases hq with hq | hq | hq | hq
  · cases hq
  · obtain ⟨i, hi, rfl⟩ := mem_vals hq
    exact dual_sz (fun j _ => hl.pn j) (fun j hj => hz.c j (by rw [h.rows.n]; omega)) hi
  · cases hq
  · rw [hq]; exact Nat.le_trans (show szQ (0 : Rat) ≤ 2 by decide) (Nat.le_add_left 2 _)
theorem ret_opt (hok : p.Ok) (hcl : c.length = p.free.length) (hl : Fits p c M) (hle : Heap.le H K) (h : I2 p c T) (hn : ∀ j, j < p.u → 0 ≤ T.c j) {f : Bool} {u w xv dv : Value}
    (hv : CanV K (.agg #[.bool f, u, w]) (-(T.c p.w))) (hx : SlV CanP 3 K xv (vals (Lay.vec p.lay.pF p.lay.mF T.pt) p.lp.n)) (hd : SlV CanP 3 K dv (vals (fun i => p.lay.sF i * (cst p c (p.lay.uF i) - T.c (p.lay.uF i))) p.lp.m)) :
    MinP p c M H (.tuple #[.agg #[.int .i64 1, .bool f, u, w, xv, dv, .slice none 0 0], .int .i64 0]) K := by
  have hz := hl.sz2 _ h.1
  have h1 := mz_opt hok hcl h hn
  refine ⟨hle, _, _, rfl, .inr (.inr ⟨hok, hcl, rfl, ⟨1, -(T.c p.w), _, _, []⟩, ⟨_, _, _, _, _, _, rfl, .inl hv, hx, hd, slV_nil⟩, .inl ⟨rfl, rfl, h1.1, h1.2⟩, fun q hq => ?_, fun _ => ⟨T, h, rfl, rfl⟩⟩)⟩
  have hb := hl.one
  rcases hq with hq | hq | hq | hq
  · obtain ⟨j, hj, rfl⟩ := mem_vals hq
    exact Nat.le_trans (vec_sz (n := 0) hb (fun j hj => pt_sz h.1.wf hz hb (by rw [h.1.rows.n]; exact hj)) hj) (by omega)
  · obtain ⟨i, hi, rfl⟩ := mem_vals hq
    exact dual_sz (fun j _ => hl.cst j) (fun j hj => hz.c j (by rw [h.1.rows.n]; omega)) hi
  · cases hq
  · rw [hq, szQ_neg]
    exact Nat.le_trans (hz.c p.w (by rw [h.1.rows.n]; exact Nat.le_refl _)) (by omega)
theorem ret_unb (hok : p.Ok) (hcl : c.length = p.free.length) (hl : Fits p c M) (hle : Heap.le H K) (h : I2 p c T) {s : Nat} (hs : s < p.u) (hneg : T.c s < 0) (hA : ∀ i, i < T.m → T.A i s ≤ 0) {xv rv : Value}
    (hx : SlV CanP 3 K xv (vals (Lay.vec p.lay.pF p.lay.mF T.pt) p.lp.n)) (hr : SlV CanP 3 K rv (vals (Lay.vec p.lay.pF p.lay.mF (T.dir s)) p.lp.n)) :
    MinP p c M H (.tuple #[.agg #[.int .i64 3, .bool false, .slice none 0 0, .slice none 0 0, xv, .slice none 0 0, rv], .int .i64 0]) K := by
  have hz := hl.sz2 _ h.1
  have hb := hl.one
  have huw := u_w p
  refine ⟨hle, _, _, rfl, .inr (.inr ⟨hok, hcl, rfl, ⟨3, 0, _, [], _⟩, ⟨_, _, _, _, _, _, rfl, .inr ⟨rfl, rfl, rfl, rfl⟩, hx, slV_nil, hr⟩, .inr (.inr ⟨rfl, rfl, rfl, mz_unb hok hcl h hs hneg hA⟩), fun q hq => ?_, fun e => by cases e⟩)⟩
  rcases hq with hq | hq | hq | hq
  · obtain ⟨j, hj, rfl⟩ := mem_vals hq
    exact Nat.le_trans (vec_sz (n := 0) hb (fun j hj => pt_sz h.1.wf hz hb (by rw [h.1.rows.n]; exact hj)) hj) (by omega)
  · cases hq
  · obtain ⟨j, hj, rfl⟩ := mem_vals hq
    exact Nat.le_trans (vec_sz (n := 0) hb (fun j hj => dir_sz h.1.wf hz hb (by rw [h.1.rows.n]; omega) (ray_out h.1.wf hneg)) hj) (by omega)
  · rw [hq]; exact Nat.le_trans (show szQ (0 : Rat) ≤ 2 by decide) (Nat.le_add_left 2 _)
end
end Go.Eng
/- Walks over package simplex, simplex.go: Minimize. -/
namespace Go.Eng
open Go.Proofs Num Lp
theorem Minimize_ok {H : Heap} {v cv : Value} {p : Prg} {c : List Rat} {M N : Nat} (hp : ProgV N H v p) (hc : SlV (RatP N) 3 H cv c) (hl : Fits p c M) (hcN : (c.length : Int) ≤ 1099511627776) (hN : (N : Int) ≤ 549755813888) (hbits : (M : Int) ≤ 34359738368) :
  Fn Tryz.prog 23 #[v, cv] H (MinP p c M H) := by
 obtain ⟨fv, rv0, rfl, hfv, hrv0⟩ := id hp
 obtain ⟨Af, cf, xf, rfl, hrF, hxF⟩ := hfv.one
 obtain ⟨Ar, cr, xr, rfl, hrR, hxR⟩ := hrv0.row
 obtain ⟨Ac, cc, xc, rfl, hcc, hrc, hec⟩ := id hc
 refine fn_intro (args := [_, _]) Tryz.func23 rfl rfl Tryz.ntmps23 rfl rfl fun w0 => ?_
 refine vc_keep [0, 1] rfl ?_
 refine vc_sr ?_
 refine vco_box rfl rfl ?_
 refine vco_alloc el36 rfl ?_
 refine vco_run tbOk 1 rfl ?_
 refine vco_k [1, 2, 4] ?_
 refine vc_seq ?_
 refine vc_sr ?_
 refine vco_run tbOk 1 rfl ?_
 refine vco_call rfl rfl (Valid_ok hp) ?_
 rintro v1 H1 ⟨e1, b1, rfl, hb1⟩
 rw [e1]
 refine vco_run tbOk 1 rfl ?_
 refine vco_k [1, 2, 4, 13] ?_
 refine vc_cond rfl (fun hb => ?_) (fun hb => ?_)
 ·
  have hb : ¬ p.Ok := fun h => by have h9 := hb1.2 h; rw [h9] at hb; simp at hb
  refine vc_sr ?_
  refine vco_st tbOk rfl el36 rfl rfl ?_
  obtain ⟨ti, hti, htz⟩ := sz36; refine vco_bstore (.inl ⟨rfl, rfl⟩) rfl rfl rfl hti htz rfl rfl rfl ?_
  refine vco_run tbOk 1 rfl ?_
  refine vco_k [4, 5] ?_
  obtain ⟨ri0, rhi0, rhz0⟩ := sz36; refine vc_ret ⟨.inr rfl, _, .agg rfl Tryz.underlying36 rhi0 rhz0 (.tmp rfl (.nil)), ?_⟩
  exact ⟨.refl _, _, _, rfl, .inl ⟨hb, rfl, rfl⟩⟩
 ·
  have hok : p.Ok := hb1.1 (by simpa using hb)
  have hn4 := hok.cols
  have hm8 := hok.rows
  have hw4 := w_le p
  have e1 : p.lp.n = p.free.length := rfl
  have e2 : p.lp.m = p.rows.length := rfl
  have hwL : (p.lay.w : Int) ≤ 1000000 := by show ((p.w : Nat) : Int) ≤ _; omega
  have hmT : ((p.tab0.m : Nat) : Int) ≤ 1000000 := by show ((p.rows.length : Nat) : Int) ≤ _; omega
  have hbo := hl.one
  refine vc_skip ?_
  refine vc_keep [1, 2, 4] rfl ?_
  refine vc_seq ?_
  refine vc_sr ?_
  refine vco_run tbOk 6 rfl ?_
  refine vco_k [1, 2, 4, 20] ?_
  refine vc_cond rfl (fun hb => ?_) (fun hb => ?_)
  ·
   have hb : c.length ≠ p.free.length := by simpa [Int.natCast_inj] using hb
   refine vc_sr ?_
   refine vco_st tbOk rfl el36 rfl rfl ?_
   obtain ⟨ti, hti, htz⟩ := sz36; refine vco_bstore (.inl ⟨rfl, rfl⟩) rfl rfl rfl hti htz rfl rfl rfl ?_
   refine vco_run tbOk 1 rfl ?_
   refine vco_k [4, 5] ?_
   obtain ⟨ri0, rhi0, rhz0⟩ := sz36; refine vc_ret ⟨.inr rfl, _, .agg rfl Tryz.underlying36 rhi0 rhz0 (.tmp rfl (.nil)), ?_⟩
   exact ⟨.refl _, _, _, rfl, .inr (.inl ⟨hok, hb, rfl, rfl⟩)⟩
  ·
   have hcl : c.length = p.free.length := by simpa [Int.natCast_inj] using hb
   refine vc_skip ?_
   refine vc_keep [1, 2, 4] rfl ?_
   refine vc_sr ?_
   refine vco_run tbOk 1 rfl ?_
   refine vco_call rfl rfl (newTableau_ok (n := p.free.length) (m := p.rows.length) hp hok rfl rfl hN) ?_
   rintro v5 H5 ⟨G, rfl, ht5, hcb5, hle5⟩
   refine vco_run tbOk 1 rfl ?_
   refine vco_k [1, 4, 6] ?_
   refine vc_sr ?_
   refine vco_run tbOk 2 rfl ?_
   refine vco_call rfl rfl (penalties_ok ht5 hwL) ?_
   rintro v6 H6 ⟨hk6, hl6, hs6⟩
   refine vco_call rfl rfl (price_ok (N := 2 * M) (f := pn p) (ht5.kept hk6) hs6 (fun i hi => unit_lt p hi) (by omega) hwL hmT (fun j _ => Nat.le_trans (hl.pn j) (by omega)) (fun i hi j _ => Nat.le_trans (hl.tab i hi j) (by omega)) hl.pr1) ?_
   rintro _ H7 ⟨cv7, gc7, _, ht7, hc7, hle7⟩
   refine vco_k [1, 4, 6] ?_
   refine vc_sr ?_
   refine vco_run tbOk 1 rfl ?_
   refine vco_call rfl rfl (solve_ok (G := (G.withC cv7 gc7)) (N := M) (I := Inv p (pn p)) ht7 hc7 (Inv.base pn_last) (fun S r s h hb => h.step (by rw [h.rows.n]; exact u_w p) hb) (fun S h => ⟨h.wf, h.feas, hl.sz1 _ h, h.rows.m, h.rows.n⟩) (by omega) hwL hmT) ?_
   rintro v8 H8 ⟨T8, hI8, ht8, hc8, hle8, hv8⟩
   have hn8 : ∀ j, j < p.u → 0 ≤ T8.c j := by rcases hv8 with ⟨_, h⟩ | ⟨s, _, h1, h2, h3⟩; exact h; exact (mz_noray hI8 h1 h2 h3).elim
   have hz8 := hl.sz1 _ hI8
   have hzw8 : szQ (T8.c p.lay.w) ≤ M := hz8.c _ (by rw [hI8.rows.n]; exact Nat.le_refl _)
   have hm8T : ((T8.m : Nat) : Int) ≤ 1000000 := by rw [hI8.rows.m]; omega
   refine vco_k [1, 4, 6] ?_
   refine vc_seq ?_
   refine vc_sr ?_
   refine vco_run tbOk 1 rfl ?_
   refine vco_call rfl rfl (value_ok (G := (G.withC cv7 gc7)) ht8 hc8 (by omega)) ?_
   rintro v9 H9 ⟨hk9, hl9, n9, d9, b9, rfl, hq9⟩
   refine vco_call rfl rfl (Fn.frI (hk9.ne ht8.ne) (ssign_ok hq9 (by rw [szQ_neg]; omega))) ?_
   rintro v10 H10 ⟨hk10, hl10, rfl⟩
   have hk8 := hk9.trans hk10
   have ht10 := ht8.kept hk8
   have hc10 := hc8.kept hk8
   have hle10 := ((((hle5.trans hk6.le).trans hle7).trans hle8).trans hk8.le)
   refine vco_run tbOk 1 rfl ?_
   refine vco_k [1, 4, 6, 33] ?_
   refine vc_cond rfl (fun hb => ?_) (fun hb => ?_)
   ·
    have hneg : T8.c p.w < 0 := by have h9 := sgn_gt.1 (show 0 < sgnQ (-(T8.c p.lay.w)) by simpa using hb); have h8 : T8.c p.lay.w = T8.c p.w := rfl; grind
    refine vc_sr ?_
    refine vco_run tbOk 2 rfl ?_
    refine vco_call rfl rfl (penalties_ok (G := (G.withC cv7 gc7)) ht10 hwL) ?_
    rintro v11 H11 ⟨hk11, hl11, hs11⟩
    refine vco_call rfl rfl (dual_ok (G := (G.withC cv7 gc7)) (n := p.lp.n) (m := p.lp.m) (N := M) (f := pn p) (ht10.kept hk11) (hc10.kept hk11) lay_tl hs11 (fun j _ => hl.pn j) (fun j hj => hz8.c j (by rw [hI8.rows.n]; exact Nat.le_of_lt hj)) (by omega) hwL (by omega)) ?_
    rintro v12 H12 ⟨hk12, hl12, A12, c12, x12, rfl, hc12, hr12, he12⟩
    refine vco_st tbOk rfl el36 rfl rfl ?_
    obtain ⟨ti, hti, htz⟩ := sz36; refine vco_bstore (.inl ⟨rfl, rfl⟩) rfl rfl rfl hti htz rfl rfl rfl ?_
    refine vco_run tbOk 1 rfl ?_
    refine vco_k [4, 5] ?_
    obtain ⟨ri0, rhi0, rhz0⟩ := sz36; refine vc_ret ⟨.inr rfl, _, .agg rfl Tryz.underlying36 rhi0 rhz0 (.tmp rfl (.nil)), ?_⟩
    exact ret_inf hok hcl hl (((hle10.trans hk11.le).trans hk12.le).trans (rem_le _ _)) hI8 hn8 hneg (SlV.le ⟨_, _, _, rfl, hc12, hr12, he12⟩ canUp (rem_le _ _))
   ·
    have hneg : ¬ T8.c p.w < 0 := fun h => by have h9 : ¬ 0 < sgnQ (-(T8.c p.lay.w)) := (by simpa using hb); exact h9 (sgn_gt.2 (by have h8 : T8.c p.lay.w = T8.c p.w := rfl; grind))
    refine vc_skip ?_
    refine vc_keep [1, 4, 6] rfl ?_
    refine vc_sr ?_
    refine vco_run tbOk 1 rfl ?_
    refine vco_call rfl rfl (expel_ok (G := (G.withC cv7 gc7)) (N := M) (J := Jx p) ht10 hc10 ⟨hI8, mz_clean hI8 hneg⟩ (fun k S h hk hd => h.skip hd) (fun k S s h hk hu hs hp => h.pivot hk hu hs hp) (fun k S h => ⟨hl.sz1 _ h.1, by rw [h.1.rows.m, hI8.rows.m], by rw [h.1.rows.n, hI8.rows.n]⟩) (by omega) hwL hm8T) ?_
    rintro _ H11 ⟨T11, hJ11, ht11, hc11, hle11⟩
    rw [hI8.rows.m] at hJ11
    have hI11 := hJ11.1
    refine vco_k [1, 4, 6] ?_
    refine vc_sr ?_
    refine vco_run tbOk 2 rfl ?_
    refine vco_hfld tbOk rfl rfl rfl ?_
    refine vco_hload tbOk rfl rfl rfl (ht11.cell0) ?_
    refine vco_call rfl rfl (zeros_fr (gs := (G.withC cv7 gc7).gs) (n := p.lay.w) ht11.ne (by omega)) ?_
    rintro v12 H12 ⟨hl12, z, xs0, rfl, hwk12, hel12⟩
    refine vco_run tbOk 1 rfl ?_
    refine vco_k [1, 4, 6, 7] ?_
    refine vc_seq ?_
    refine vc_sr ?_
    refine vco_run tbOk 1 rfl ?_
    refine vco_call rfl rfl (Fn.frS (gs := (z :: (G.withC cv7 gc7).gs)) (hwk12.ne ht11.ne) (svector_ok (hc.le (ratUp N) ((hle10.trans hle11).trans hwk12.le)) (by omega) hcN)) ?_
    rintro v13 H13 ⟨hk13, hl13, hs13⟩
    have hwk13 := hwk12.kept hk13
    obtain ⟨Av, cv, xv, rfl, hrv, hxv⟩ := hs13.num
    obtain ⟨Ap, cp, xp, hpv, hrp, hxp⟩ := ht11.self.plus.one
    obtain ⟨Am, cm, xm, hmv, hrm, hxm⟩ := ht11.self.minus.one
    rw [lay_tl.plen] at hpv
    rw [lay_tl.mlen] at hmv
    rw [hcl]
    refine vco_run tbOk 2 rfl ?_
    refine vco_k [4, 6, 7, 47, 48, 49] ?_
    refine vc_block ?_
    refine vc_loop2 (fun (k : Nat) (xs : List Value) => p.free.length - k) (fun (k : Nat) (xs : List Value) => put (put (put (put (put (put (emp) 4 (.box [.int .i64 0, .bool false, .slice none 0 0, .slice none 0 0, .slice none 0 0, .slice none 0 0, .slice none 0 0])) 6 (.val (.pointer (some ⟨G.g, 0, none⟩)))) 7 (.val (.slice (some ⟨z, 0, none⟩) p.lay.w p.lay.w))) 47 (.val (.slice Av p.free.length cv))) 48 (.val (.int .i64 (p.free.length : Int)))) 49 (.val (.int .i64 (k : Int)))) (fun (k : Nat) (xs : List Value) H' => Work (G.withC cv7 gc7).gs H11 H' z xs (p.lay.w * 3) 72 ∧ Els (NumV (rem H' (z :: (G.withC cv7 gc7).gs))) 3 xs (vals (rwk p.lay (fn c) 1 k) p.lay.w) ∧ Heap.le (rem H13 (z :: (G.withC cv7 gc7).gs)) (rem H' (z :: (G.withC cv7 gc7).gs)) ∧ k ≤ p.free.length) 0 xs0 (⟨hwk13, hel12 _, .refl _, Nat.zero_le _⟩) sub_auto ?_
    rintro k xs H14 ⟨hwk14, hel14, hle14, hk14⟩
    have hw14 := hwk14.tab ht11
    have hxl := hel14.len
    rw [vals_len] at hxl
    refine vc_sr ?_
    refine vco_run tbOk 1 rfl ?_
    refine vco_k [4, 6, 7, 47, 48, 49, 50] ?_
    refine vc_seq ?_
    refine vc_cond rfl (fun hb => ?_) (fun hb => ?_)
    ·
     have hkn : k < p.free.length := by simpa using hb
     obtain ⟨q, hqk⟩ : ∃ q, c[k]? = some q := ⟨_, List.getElem?_eq_getElem (by omega)⟩
     obtain ⟨n1, d1, b1, hn1, hx1⟩ := hxv k q hqk
     have hfq : fn c k = q := fn_get hqk
     have hszq : szQ q ≤ N + 2 := RawV.size (hec.at_ k q hqk)
     obtain ⟨up, hup, hupe⟩ := hxp k _ (lay_tl.p hkn)
     obtain ⟨um, hum, hume⟩ := hxm k _ (lay_tl.mi hkn)
     cases hupe
     cases hume
     have hpwk := lay_tl.pw k hkn
     have hmwk := lay_tl.mw k hkn
     rw [← hfq] at hn1
     refine vc_skip ?_
     refine vc_keep [4, 6, 7, 47, 48, 49] rfl ?_
     refine vc_seq ?_
     refine vc_block ?_
     refine vc_sr ?_
     refine vco_run tbOk 1 rfl ?_
     refine vco_at_st (vs := [.int .i64 n1, .int .i64 d1, .pointer b1]) tbOk rfl rfl rfl rfl ((hrv.le hle14).le (rem_le _ _)) rfl (by decide) hx1 (by omega) (by omega) fun _ => ?_
     refine vco_alloc el72 rfl ?_
     refine vco_run tbOk 1 rfl ?_
     obtain ⟨ti, hti, htz⟩ := sz72; refine vco_bstore (.inl ⟨rfl, rfl⟩) rfl rfl rfl hti htz rfl rfl rfl ?_
     refine vco_k [4, 6, 7, 8, 9, 47, 48, 49] ?_
     refine vc_sd .drawH [0, 1, 2, 3, 4, 5, 6, 7, 8, 9, 10] follows (by kernel_rfl) ?_
     refine vco_run tbOk 3 rfl ?_
     refine vco_hfld tbOk rfl rfl rfl ?_
     refine vco_hload tbOk rfl rfl rfl (show cell _ _ = some (.slice Ap p.free.length cp) from by rw [← show (G.withC cv7 gc7).pv = .slice Ap p.free.length cp from hpv]; exact hw14.cell 2 _ rfl) ?_
     refine vco_run tbOk 1 rfl ?_
     refine vco_at tbOk rfl rfl rfl rfl rfl (hrp.le hwk14.hle) (by rw [Int.toNat_natCast]; exact hup) (by omega) (by omega) fun _ => ?_
     refine vco_run tbOk 1 rfl ?_
     obtain ⟨ti, hti, htz⟩ := sz72; refine vco_set (.inr rfl) tbOk rfl rfl rfl (by omega) (by omega) (hwk14.blk) rfl (by show 0 + p.lay.w * 3 ≤ xs.length; omega) hti htz (fun _ => rfl) rfl rfl rfl fun _ => ?_
     refine vco_k [4, 6, 7, 8, 9, 47, 48, 49] ?_
     have hwk15 : Work (G.withC cv7 gc7).gs H11 (ins H14 z { (⟨xs, p.lay.w * 3, 72, true⟩ : Ent) with xs := splice xs (0 + ((p.lay.pF k : Nat) : Int).toNat * 3) [.int .i64 n1, .int .i64 d1, .pointer b1] }) z (splice xs (p.lay.pF k * 3) [.int .i64 n1, .int .i64 d1, .pointer b1]) (p.lay.w * 3) 72 := hwk14.set (by rw [Int.toNat_natCast]; exact ent_set)
     have hel15 : Els (NumV (rem (ins H14 z { (⟨xs, p.lay.w * 3, 72, true⟩ : Ent) with xs := splice xs (0 + ((p.lay.pF k : Nat) : Int).toNat * 3) [.int .i64 n1, .int .i64 d1, .pointer b1] }) (z :: (G.withC cv7 gc7).gs))) 3 (splice xs (p.lay.pF k * 3) [.int .i64 n1, .int .i64 d1, .pointer b1]) (vals (upd (rwk p.lay (fn c) 1 k) (p.lay.pF k) (fn c k)) p.lay.w) := by
      rw [rem_ins_in _ (List.mem_cons_self ..)]; exact els_upd hel14 (by omega) (hn1.le hle14)
     have hle15 : Heap.le (rem H13 (z :: (G.withC cv7 gc7).gs)) (rem (ins H14 z { (⟨xs, p.lay.w * 3, 72, true⟩ : Ent) with xs := splice xs (0 + ((p.lay.pF k : Nat) : Int).toNat * 3) [.int .i64 n1, .int .i64 d1, .pointer b1] }) (z :: (G.withC cv7 gc7).gs)) := by rw [rem_ins_in _ (List.mem_cons_self ..)]; exact hle14
     show VC _ _ _ _ _ _ _ (ins H14 z { (⟨xs, p.lay.w * 3, 72, true⟩ : Ent) with xs := splice xs (0 + ((p.lay.pF k : Nat) : Int).toNat * 3) [.int .i64 n1, .int .i64 d1, .pointer b1] })
     generalize ins H14 z { (⟨xs, p.lay.w * 3, 72, true⟩ : Ent) with xs := splice xs (0 + ((p.lay.pF k : Nat) : Int).toNat * 3) [.int .i64 n1, .int .i64 d1, .pointer b1] } = H15 at hwk15 hel15 hle15 ⊢
     have hw15 := hwk15.tab ht11
     have hxl5 := hel15.len
     rw [vals_len] at hxl5
     refine vc_sr ?_
     refine vco_run tbOk 2 rfl ?_
     refine vco_hfld tbOk rfl rfl rfl ?_
     refine vco_hload tbOk rfl rfl rfl (show cell _ _ = some (.slice Am p.free.length cm) from by rw [← show (G.withC cv7 gc7).mv = .slice Am p.free.length cm from hmv]; exact hw15.cell 3 _ rfl) ?_
     refine vco_run tbOk 1 rfl ?_
     refine vco_at tbOk rfl rfl rfl rfl rfl (hrm.le hwk15.hle) (by rw [Int.toNat_natCast]; exact hum) (by omega) (by omega) fun _ => ?_
     refine vco_run tbOk 1 rfl ?_
     refine vco_k [4, 6, 7, 8, 9, 47, 48, 49, 71] ?_
     refine vc_cond rfl (fun hb => ?_) (fun hb => ?_)
     ·
      have hb : 0 ≤ p.lay.mZ k := by simpa using hb
      refine vc_draw .drawH [0, 1, 2, 3, 4, 5, 6, 7, 8, 9, 10, 11] follows (by kernel_rfl) ?_
      refine vco_run tbOk 3 rfl ?_
      refine vco_hfld tbOk rfl rfl rfl ?_
      refine vco_hload tbOk rfl rfl rfl (show cell _ _ = some (.slice Am p.free.length cm) from by rw [← show (G.withC cv7 gc7).mv = .slice Am p.free.length cm from hmv]; exact hw15.cell 3 _ rfl) ?_
      refine vco_run tbOk 1 rfl ?_
      refine vco_at tbOk rfl rfl rfl rfl rfl (hrm.le hwk15.hle) (by rw [Int.toNat_natCast]; exact hum) (by omega) (by omega) fun _ => ?_
      refine vco_run tbOk 1 rfl ?_
      refine vco_callM rfl rfl (Fn.frM (hwk15.ne ht11.ne) (sneg_ok (hn1.le hle15) (by rw [hfq]; omega))) (fun _ _ h => by first | exact h.le | exact h.1) ?_
      rintro v17 H17 ⟨hk17, hl17, n7, d7, b7, rfl, hq17⟩
      have hwk17 := hwk15.kept hk17
      obtain ⟨ti, hti, htz⟩ := sz72; refine vco_set (.inr rfl) tbOk rfl rfl rfl (by omega) (by omega) (hwk17.blk) rfl (by show 0 + p.lay.w * 3 ≤ (splice xs (p.lay.pF k * 3) [.int .i64 n1, .int .i64 d1, .pointer b1]).length; omega) hti htz (fun _ => rfl) rfl rfl rfl fun _ => ?_
      refine vco_end ?_
      have hwk18 := hwk17.set (ent_set (xs := splice xs (p.lay.pF k * 3) [.int .i64 n1, .int .i64 d1, .pointer b1]) (vs := [.int .i64 n7, .int .i64 d7, .pointer b7]) (k := (p.lay.mZ k).toNat) (sz := 3))
      refine vc_keep [4, 6, 7, 47, 48, 49] rfl ?_
      refine vc_region rfl ?_
      refine vco_add rfl rfl ⟨by omega, by omega⟩ ?_
      refine vco_run tbOk 1 rfl ?_
      refine vco_end ?_
      exact ⟨k + 1, _, by omega, sub_auto, hwk18, by rw [rem_ins_in _ (List.mem_cons_self ..), rwk_succ, if_pos hb, Rat.mul_one]; exact els_upd (hel15.mono fun vs a => numUp _ _ vs a hk17.le) (by omega) hq17, by rw [rem_ins_in _ (List.mem_cons_self ..)]; exact hle15.trans hk17.le, by omega⟩
     ·
      have hb : ¬ 0 ≤ p.lay.mZ k := by simpa using hb
      refine vc_skip ?_
      refine vc_keep [4, 6, 7, 47, 48, 49] rfl ?_
      refine vc_region rfl ?_
      refine vco_add rfl rfl ⟨by omega, by omega⟩ ?_
      refine vco_run tbOk 1 rfl ?_
      refine vco_end ?_
      exact ⟨k + 1, _, by omega, sub_auto, hwk15, by rw [rwk_succ, if_neg hb, Rat.mul_one]; exact hel15, hle15, by omega⟩
    ·
     have hb : p.free.length ≤ k := by simpa using hb
     obtain rfl : p.free.length = k := by omega
     have hkd := hwk14.done
     have hcs : SlV NumV 3 (rem H14 (G.withC cv7 gc7).gs) (.slice (some ⟨z, 0, none⟩) p.lay.w p.lay.w) (vals (cst p c) p.lay.w) := ⟨some ⟨z, 0, none⟩, p.lay.w, xs, by rw [vals_len], by rw [vals_len]; exact Nat.le_refl _, hwk14.rd, hel14.mono fun vs a => numUp _ _ vs a hkd.2⟩
     have hm11 : ((T11.m : Nat) : Int) ≤ 1000000 := by rw [hI11.rows.m]; omega
     skip
     have hz11 := hl.sz1 _ hI11
     refine vc_exit ?_
     refine vc_keep [4, 6, 7] rfl ?_
     refine vc_sr ?_
     refine vco_run tbOk 2 rfl ?_
     refine vco_call rfl rfl (price_ok (G := (G.withC cv7 gc7)) (N := 2 * M) (f := cst p c) (ht11.kept hkd.1) hcs (fun i hi => by have h9 := hI11.wf.lt i hi; rw [hI11.rows.n] at h9; exact h9) (by omega) hwL hm11 (fun j _ => Nat.le_trans (hl.cst j) (by omega)) (fun i hi j hj => Nat.le_trans (hz11.A i hi j (by rw [hI11.rows.n]; exact hj)) (by omega)) (fun k hk j hj => hl.pr2 _ hI11 k hk j (by rw [hI11.rows.n]; exact hj))) ?_
     rintro _ H19 ⟨cv19, gc19, _, ht19, hc19, hle19⟩
     refine vco_k [4, 6, 7] ?_
     refine vc_seq ?_
     refine vc_sr ?_
     refine vco_run tbOk 1 rfl ?_
     refine vco_call rfl rfl (solve_ok (G := ((G.withC cv7 gc7).withC cv19 gc19)) (N := M) (I := I2 p c) ht19 hc19 (I2.start hJ11) (fun S r s h hb => h.step hb) (fun S h => ⟨h.1.wf, h.1.feas, hl.sz2 _ h.1, by rw [h.1.rows.m]; exact hI11.rows.m.symm, by rw [h.1.rows.n]; exact hI11.rows.n.symm⟩) (by omega) hwL hm11) ?_
     rintro v20 H20 ⟨T20, hI20, ht20, hc20, hle20, hv20⟩
     have hz20 := hl.sz2 _ hI20.1
     have hzw20 : szQ (T20.c p.lay.w) ≤ M := hz20.c _ (by rw [hI20.1.rows.n]; exact Nat.le_refl _)
     have hm20 : ((T20.m : Nat) : Int) ≤ 1000000 := by rw [hI20.1.rows.m]; omega
     have hcs20 := hcs.le numUp (hle19.trans hle20)
     have hle20H := ((hle10.trans hle11).trans hkd.1.le).trans (hle19.trans hle20)
     have hpz : ∀ j, j < p.lay.w → szQ (T20.pt j) ≤ M := fun j hj => pt_sz hI20.1.wf hz20 hbo (by rw [hI20.1.rows.n]; exact hj)
     refine vco_run tbOk 1 rfl ?_
     refine vco_k [4, 6, 7, 10] ?_
     rcases hv20 with ⟨rfl, hn20⟩ | ⟨s, rfl, hs20, hneg20, hA20⟩
     ·
      skip
      refine vc_sr ?_
      refine vco_run tbOk 1 rfl ?_
      refine vco_cmp false rfl rfl (cge_f (by decide)) ?_
      refine vco_k [4, 6, 7, 10, 90] ?_
      refine vc_cond_f rfl ?_
      refine vc_skip ?_
      refine vc_keep [4, 6, 7] rfl ?_
      refine vc_sr ?_
      refine vco_run tbOk 1 rfl ?_
      refine vco_call rfl rfl (value_ok (G := ((G.withC cv7 gc7).withC cv19 gc19)) ht20 hc20 (by omega)) ?_
      rintro v23 H23 ⟨hk23, hl23, n23, d23, b23, rfl, hq23⟩
      refine vco_call rfl rfl (Fn.frame (gs := ((G.withC cv7 gc7).withC cv19 gc19).gs) (hk23.ne ht20.ne) (sout_ok hq23 (by rw [szQ_neg]; omega))) ?_
      rintro v24 H24 ⟨⟨hl24, hq24⟩, hs24⟩
      have hk24 := hk23.trans ⟨hl24, hs24⟩
      have ht24 := ht20.kept hk24
      have hc24 := hc20.kept hk24
      obtain ⟨u24, w24, rfl, hu24, hw24⟩ := id hq24
      obtain ⟨A27, c27, rfl, _, _⟩ := hu24
      obtain ⟨A28, c28, rfl, _, _⟩ := hw24
      refine vco_run tbOk 1 rfl ?_
      refine vco_call rfl rfl (point_ok (G := ((G.withC cv7 gc7).withC cv19 gc19)) ht24 hI20.1.wf lay_tl hpz (by omega) hwL (by omega) hm20) ?_
      rintro v25 H25 ⟨hk25, hl25, A25, c25, x25, rfl, hc25, hr25, he25⟩
      refine vco_run tbOk 2 rfl ?_
      refine vco_call rfl rfl (dual_ok (G := ((G.withC cv7 gc7).withC cv19 gc19)) (n := p.lp.n) (m := p.lp.m) (N := M) (f := cst p c) (ht24.kept hk25) (hc24.kept hk25) lay_tl (hcs20.le numUp (hk24.le.trans hk25.le)) (fun j _ => hl.cst j) (fun j hj => hz20.c j (by rw [hI20.1.rows.n]; exact Nat.le_of_lt hj)) (by omega) hwL (by omega)) ?_
      rintro v26 H26 ⟨hk26, hl26, A26, c26, x26, rfl, hc26, hr26, he26⟩
      refine vco_st tbOk rfl el36 rfl rfl ?_
      obtain ⟨ti, hti, htz⟩ := sz36; refine vco_bstore (.inl ⟨rfl, rfl⟩) rfl rfl rfl hti htz rfl rfl rfl ?_
      refine vco_run tbOk 1 rfl ?_
      refine vco_k [4, 5] ?_
      obtain ⟨ri0, rhi0, rhz0⟩ := sz36; refine vc_ret ⟨.inr rfl, _, .agg rfl Tryz.underlying36 rhi0 rhz0 (.tmp rfl (.nil)), ?_⟩
      exact ret_opt hok hcl hl ((((hle20H.trans hk24.le).trans hk25.le).trans hk26.le).trans (rem_le _ _)) hI20 hn20 (CanV.le hq24 ((hk25.le.trans hk26.le).trans (rem_le _ _))) (SlV.le ⟨_, _, _, rfl, hc25, hr25, he25⟩ canUp (hk26.le.trans (rem_le _ _))) (SlV.le ⟨_, _, _, rfl, hc26, hr26, he26⟩ canUp (rem_le _ _))
     ·
      skip
      refine vc_sr ?_
      refine vco_run tbOk 1 rfl ?_
      refine vco_cmp true rfl rfl (cge_t (by omega)) ?_
      refine vco_k [4, 6, 7, 10, 90] ?_
      refine vc_cond_t rfl ?_
      refine vc_sr ?_
      refine vco_run tbOk 1 rfl ?_
      refine vco_call rfl rfl (point_ok (G := ((G.withC cv7 gc7).withC cv19 gc19)) ht20 hI20.1.wf lay_tl hpz (by omega) hwL (by omega) hm20) ?_
      rintro v25 H25 ⟨hk25, hl25, A25, c25, x25, rfl, hc25, hr25, he25⟩
      have huw := u_w p
      have hns := ray_out hI20.1.wf hneg20
      refine vco_run tbOk 2 rfl ?_
      refine vco_call rfl rfl (ray_ok (G := ((G.withC cv7 gc7).withC cv19 gc19)) (N := M) (s := s) (ht20.kept hk25) hI20.1.wf lay_tl (Nat.lt_of_lt_of_le hs20 huw) hns (fun i hi => hz20.A i hi s (by rw [hI20.1.rows.n]; exact Nat.le_of_lt (Nat.lt_of_lt_of_le hs20 huw))) (fun j _ => dir_sz hI20.1.wf hz20 hbo (by rw [hI20.1.rows.n]; exact Nat.le_of_lt (Nat.lt_of_lt_of_le hs20 huw)) hns) (by omega) hwL (by omega) hm20) ?_
      rintro v26 H26 ⟨hk26, hl26, A26, c26, x26, rfl, hc26, hr26, he26⟩
      refine vco_st tbOk rfl el36 rfl rfl ?_
      obtain ⟨ti, hti, htz⟩ := sz36; refine vco_bstore (.inl ⟨rfl, rfl⟩) rfl rfl rfl hti htz rfl rfl rfl ?_
      refine vco_run tbOk 1 rfl ?_
      refine vco_k [4, 5] ?_
      obtain ⟨ri0, rhi0, rhz0⟩ := sz36; refine vc_ret ⟨.inr rfl, _, .agg rfl Tryz.underlying36 rhi0 rhz0 (.tmp rfl (.nil)), ?_⟩
      exact ret_unb hok hcl hl (((hle20H.trans hk25.le).trans hk26.le).trans (rem_le _ _)) hI20 hs20 hneg20 hA20 (SlV.le ⟨_, _, _, rfl, hc25, hr25, he25⟩ canUp (hk26.le.trans (rem_le _ _))) (SlV.le ⟨_, _, _, rfl, hc26, hr26, he26⟩ canUp (rem_le _ _))
end Go.Eng
/- Walks over package simplex, simplex.go, part 2: stands, Value. -/
namespace Go.Eng
open Go.Proofs Num Lp
theorem RowP.coef {N : Nat} {H : Heap} {r : List Rat × Int × Rat} {v0 : Value} {f : Bool} {u w : Value} (h : RowP N H [v0, .int .i64 r.2.1, .bool f, u, w] r) : SlV (RatP N) 3 H v0 r.1 := by
  obtain ⟨c, f', u', w', h1, h2, _⟩ := h
  simp only [List.cons.injEq] at h1
  rw [h1.1]; exact h2
theorem RowP.size {N : Nat} {H : Heap} {r : List Rat × Int × Rat} {vs : List Value} (h : RowP N H vs r) : ∀ q, q ∈ r.1 → szQ q ≤ N + 2 := fun q hq => by
  obtain ⟨c, f', u', w', _, ⟨A, cc, xs, _, _, _, h4⟩, _⟩ := h
  obtain ⟨k, hk⟩ := List.getElem?_of_mem hq
  exact RawV.size (h4.at_ k q hk)
theorem fn_mem {l : List Rat} {j : Nat} (h : j < l.length) : fn l j ∈ l := by
  rw [fn_get (List.getElem?_eq_getElem h)]; exact List.getElem_mem h
theorem dot_sz {M : Nat} (n : Nat) (a b : Nat → Rat) (ha : ∀ j, j < n → szQ (a j) ≤ M) (hb : ∀ j, j < n → szQ (b j) ≤ M) : szQ (dotN n a b) ≤ n * (2 * M + 2) + 1 := by
  unfold dotN
  induction n with
  | zero => rw [sumN_zero, Nat.zero_mul]; exact (show szQ (0 : Rat) ≤ 1 by decide)
  | succ n ih =>
    rw [sumN_succ, Nat.succ_mul]
    have h1 := szQ_add (sumN n (fun j => a j * b j)) (a n * b n)
    have h2 := szQ_mul (a n) (b n)
    have h3 := ih (fun j hj => ha j (by omega)) (fun j hj => hb j (by omega))
    have h4 := ha n (by omega)
    have h5 := hb n (by omega)
    omega
theorem stands_ok {H : Heap} {vs : List Value} {q : Rat} {rel : Int} (hv : NumV H vs q) (hN : (szQ q : Int) ≤ 1099511627776) (hr : rel = 1 ∨ rel = 2 ∨ rel = 3) :
  Fn Tryz.prog 101 #[.int .i64 rel, .agg vs.toArray] H (fun v H' => Heap.le H H' ∧ ∃ b, v = .bool b ∧ (b = true ↔ relOk rel q)) := by
 obtain ⟨n1, d1, b1, rfl⟩ := hv.cells
 refine fn_intro (args := [_, _]) Tryz.func101 rfl rfl Tryz.ntmps101 rfl rfl fun w0 => ?_
 refine vc_keep [0, 1] rfl ?_
 refine vc_sr ?_
 refine vco_box rfl rfl ?_
 refine vco_run tbOk 1 rfl ?_
 refine vco_k [0, 3] ?_
 refine vc_seq ?_
 refine vc_sr ?_
 refine vco_run tbOk 1 rfl ?_
 refine vco_k [3, 5] ?_
 refine vc_block ?_
 refine vc_sr ?_
 refine vco_run tbOk 2 rfl ?_
 refine vco_k [3, 5, 6] ?_
 refine vc_cond rfl (fun hb => ?_) (fun hb => ?_)
 ·
  have hb : rel = 1 := by simpa using hb
  refine vc_sr ?_
  refine vco_run tbOk 1 rfl ?_
  refine vco_call rfl rfl (ssign_ok hv hN) ?_
  rintro v1 H1 ⟨hl1, rfl⟩
  refine vco_run tbOk 2 rfl ?_
  refine vco_k [4] ?_
  refine vc_ret ⟨.inr rfl, _, .tmp rfl (.nil), ?_⟩
  exact ⟨hl1, _, rfl, by simp only [decide_eq_true_eq, sgn_le]; unfold relOk; constructor <;> intro h9 <;> grind⟩
 ·
  have hb : ¬ rel = 1 := by simpa using hb
  refine vc_sr ?_
  refine vco_run tbOk 2 rfl ?_
  refine vco_k [3, 11] ?_
  refine vc_cond rfl (fun hb => ?_) (fun hb => ?_)
  ·
   have hb3 : rel = 3 := by simpa using hb
   refine vc_sr ?_
   refine vco_run tbOk 1 rfl ?_
   refine vco_call rfl rfl (ssign_ok hv hN) ?_
   rintro v1 H1 ⟨hl1, rfl⟩
   refine vco_run tbOk 2 rfl ?_
   refine vco_k [4] ?_
   refine vc_ret ⟨.inr rfl, _, .tmp rfl (.nil), ?_⟩
   exact ⟨hl1, _, rfl, by simp only [decide_eq_true_eq, ge_iff_le, sgn_ge]; unfold relOk; constructor <;> intro h9 <;> grind⟩
  ·
   have hb3 : ¬ rel = 3 := by simpa using hb
   refine vc_skip ?_
   refine vc_keep [3] rfl ?_
   refine vc_sr ?_
   refine vco_run tbOk 1 rfl ?_
   refine vco_call rfl rfl (ssign_ok hv hN) ?_
   rintro v1 H1 ⟨hl1, rfl⟩
   refine vco_run tbOk 2 rfl ?_
   refine vco_k [4] ?_
   refine vc_ret ⟨.inr rfl, _, .tmp rfl (.nil), ?_⟩
   exact ⟨hl1, _, rfl, by simp only [beq_iff_eq, sgn_eq]; unfold relOk; constructor <;> intro h9 <;> grind⟩
theorem satisfies_ok {H : Heap} {v xv : Value} {p : Prg} {x : List Rat} {t : Rat} {ts : List Value} {N M : Nat} (hp : ProgV N H v p) (hok : p.Ok) (hx : SlV NumV 3 H xv x) (hxl : x.length = p.free.length) (ht : NumV H ts t) (ht1 : szQ t ≤ 1) (hxM : ∀ q, q ∈ x → szQ q ≤ M) (hNM : N + 2 ≤ M) (hM : M ≤ 1300000000) :
  Fn Tryz.prog 60 #[v, xv, .agg ts.toArray] H (fun v H' => Heap.le H H' ∧ ∃ b, v = .bool b ∧ (b = true ↔ p.lp.Meets t (fn x))) := by
 obtain ⟨fv, rv0, rfl, hfv, hrv0⟩ := id hp
 obtain ⟨Af, cf, xf, rfl, hrF, hxF⟩ := hfv.one
 obtain ⟨Ar, cr, xr, rfl, hrR, hxR⟩ := hrv0.row
 obtain ⟨tn, td, tb1, rfl⟩ := ht.cells
 obtain ⟨Ax, cx, xx, rfl, hrX, hxX⟩ := hx.num
 rw [hxl] at hx ⊢
 have hn4 := hok.cols
 have hm8 := hok.rows
 refine fn_intro (args := [_, _, _]) Tryz.func60 rfl rfl Tryz.ntmps60 rfl rfl fun w0 => ?_
 refine vc_keep [0, 1, 2] rfl ?_
 refine vc_sr ?_
 refine vco_box rfl rfl ?_
 refine vco_box rfl rfl ?_
 refine vco_run tbOk 1 rfl ?_
 refine vco_k [1, 3, 5] ?_
 refine vc_seq ?_
 refine vc_sr ?_
 refine vco_run tbOk 4 rfl ?_
 refine vco_k [1, 3, 5, 13, 14, 15] ?_
 refine vc_block ?_
 refine vc_loop1 (fun (i : Nat) => p.free.length - i) (fun (i : Nat) => put (put (put (put (put (put (emp) 1 (.val (.slice Ax p.free.length cx))) 3 (.box [.slice Af p.free.length cf, .slice Ar p.rows.length cr])) 5 (.box [.int .i64 tn, .int .i64 td, .pointer tb1])) 13 (.val (.slice Af p.free.length cf))) 14 (.val (.int .i64 (p.free.length : Int)))) 15 (.val (.int .i64 (i : Int)))) (fun (i : Nat) H' => Heap.le H H' ∧ (∀ j, j < i → p.lp.free j = false → 0 ≤ fn x j) ∧ i ≤ p.free.length) 0 (⟨.refl _, (fun j h => by omega), Nat.zero_le _⟩) sub_auto ?_
 rintro i H1 ⟨hl1, hal, hi⟩
 refine vc_sr ?_
 refine vco_run tbOk 1 rfl ?_
 refine vco_k [1, 3, 5, 13, 14, 15, 16] ?_
 refine vc_seq ?_
 refine vc_cond rfl (fun hb => ?_) (fun hb => ?_)
 ·
  have hin : i < p.free.length := by simpa using hb
  obtain ⟨fb, hfb⟩ : ∃ fb, p.free[i]? = some fb := ⟨_, List.getElem?_eq_getElem hin⟩
  obtain ⟨uf, huf, hufe⟩ := hxF i fb hfb
  cases hufe
  have hfr : p.lp.free i = fb := Prg.free_get hfb
  obtain ⟨q, hqk⟩ : ∃ q, x[i]? = some q := ⟨_, List.getElem?_eq_getElem (by omega)⟩
  obtain ⟨n1, d1, b1, hn1, hx1⟩ := hxX i q hqk
  have hfq : fn x i = q := fn_get hqk
  have hszq := hxM q (List.mem_of_getElem? hqk)
  refine vc_skip ?_
  refine vc_keep [1, 3, 5, 13, 14, 15] rfl ?_
  refine vc_seq ?_
  refine vc_block ?_
  refine vc_sr ?_
  refine vco_run tbOk 1 rfl ?_
  refine vco_at tbOk rfl rfl rfl rfl rfl (hrF.le hl1) (by rw [Int.toNat_natCast]; exact huf) (by omega) (by omega) fun _ => ?_
  refine vco_run tbOk 2 rfl ?_
  refine vco_k [1, 3, 5, 7, 8, 13, 14, 15] ?_
  cases fb
  ·
   skip
   refine vc_sr ?_
   refine vco_run tbOk 5 rfl ?_
   refine vco_at_st (vs := [.int .i64 n1, .int .i64 d1, .pointer b1]) tbOk rfl rfl rfl rfl (hrX.le hl1) rfl (by decide) hx1 (by omega) (by omega) fun _ => ?_
   refine vco_call rfl rfl (ssign_ok (hn1.le hl1) (by omega)) ?_
   rintro v2 H2 ⟨hl2, rfl⟩
   refine vco_run tbOk 2 rfl ?_
   refine vco_k [1, 3, 5, 13, 14, 15, 29] ?_
   refine vc_cond rfl (fun hb => ?_) (fun hb => ?_)
   ·
    have hlt : fn x i < 0 := by rw [hfq]; exact sgn_lt.1 (by simpa using hb)
    refine vc_sr ?_
    refine vco_run tbOk 1 rfl ?_
    refine vco_k [6] ?_
    refine vc_ret ⟨.inr rfl, _, .tmp rfl (.nil), ?_⟩
    exact ⟨hl1.trans hl2, false, rfl, ⟨(fun h => by cases h), (fun h => by have h9 := h.1 i hin hfr; grind)⟩⟩
   ·
    have hge : 0 ≤ fn x i := by rw [hfq]; exact sgn_ge.1 (by simpa using hb)
    refine vc_skip ?_
    refine vc_keep [1, 3, 5, 13, 14, 15] rfl ?_
    refine vc_region rfl ?_
    refine vco_add rfl rfl ⟨by omega, by omega⟩ ?_
    refine vco_run tbOk 1 rfl ?_
    refine vco_end ?_
    exact ⟨i + 1, by omega, sub_auto, hl1.trans hl2, (fun j hj hf => by by_cases h9 : j < i; exact hal j h9 hf; (obtain rfl : j = i := by omega); exact hge), by omega⟩
  ·
   skip
   refine vc_sr ?_
   refine vco_run tbOk 10 rfl ?_
   refine vco_k [1, 3, 5, 13, 14, 15, 29] ?_
   refine vc_cond_f rfl ?_
   refine vc_skip ?_
   refine vc_keep [1, 3, 5, 13, 14, 15] rfl ?_
   refine vc_region rfl ?_
   refine vco_add rfl rfl ⟨by omega, by omega⟩ ?_
   refine vco_run tbOk 1 rfl ?_
   refine vco_end ?_
   exact ⟨i + 1, by omega, sub_auto, hl1, (fun j hj hf => by by_cases h9 : j < i; exact hal j h9 hf; (obtain rfl : j = i := by omega); rw [hfr] at hf; cases hf), by omega⟩
 ·
  have hb : p.free.length ≤ i := by simpa using hb
  obtain rfl : p.free.length = i := by omega
  refine vc_exit ?_
  refine vc_keep [1, 3, 5] rfl ?_
  refine vc_seq ?_
  refine vc_sr ?_
  refine vco_run tbOk 4 rfl ?_
  refine vco_k [1, 5, 32, 33, 34] ?_
  refine vc_block ?_
  refine vc_loop1 (fun (i : Nat) => p.rows.length - i) (fun (i : Nat) => put (put (put (put (put (emp) 1 (.val (.slice Ax p.free.length cx))) 5 (.box [.int .i64 tn, .int .i64 td, .pointer tb1])) 32 (.val (.slice Ar p.rows.length cr))) 33 (.val (.int .i64 (p.rows.length : Int)))) 34 (.val (.int .i64 (i : Int)))) (fun (i : Nat) H' => Heap.le H H' ∧ (∀ k, k < i → relOk (p.lp.rel k) (dotN p.lp.n (p.lp.a k) (fn x) - p.lp.b k * t)) ∧ i ≤ p.rows.length) 0 (⟨hl1, (fun j h => by omega), Nat.zero_le _⟩) sub_auto ?_
  rintro i H2 ⟨hl2, hal2, hi2⟩
  refine vc_sr ?_
  refine vco_run tbOk 1 rfl ?_
  refine vco_k [1, 5, 32, 33, 34, 35] ?_
  refine vc_seq ?_
  refine vc_cond rfl (fun hb => ?_) (fun hb => ?_)
  ·
   have him : i < p.rows.length := by simpa using hb
   obtain ⟨r, hr⟩ : ∃ r, p.rows[i]? = some r := ⟨_, List.getElem?_eq_getElem him⟩
   obtain ⟨A0, c0, f, A1, m1, c1, A2, m2, c2, hrp, hrx⟩ := hxR i r hr
   have hbd : RawV H (.agg #[.bool f, .slice A1 m1 c1, .slice A2 m2 c2]) r.2.2 N := RowP.bound hrp
   have hszb := hbd.size
   have hro := hok.row i r hr
   have hrl : r.1.length = p.free.length := hro.1
   have hco : SlV (RatP N) 3 H (.slice A0 r.1.length c0) r.1 := RowP.coef hrp
   have hrM : ∀ q, q ∈ r.1 → szQ q ≤ M := fun q hq => by
    have h9 := RowP.size hrp q hq; omega
   have hrow : p.row i = r := Prg.row_get hr
   refine vc_skip ?_
   refine vc_keep [1, 5, 32, 33, 34] rfl ?_
   refine vc_seq ?_
   refine vc_block ?_
   refine vc_sr ?_
   refine vco_at_st (vs := [.slice A0 r.1.length c0, .int .i64 r.2.1, .bool f, .slice A1 m1 c1, .slice A2 m2 c2]) tbOk rfl rfl rfl rfl (hrR.le hl2) rfl (by decide) hrx (by omega) (by omega) fun _ => ?_
   refine vco_alloc el46 rfl ?_
   obtain ⟨ti, hti, htz⟩ := sz46; refine vco_bstore (.inl ⟨rfl, rfl⟩) rfl rfl rfl hti htz rfl rfl rfl ?_
   refine vco_k [1, 5, 10, 32, 33, 34] ?_
   refine vc_sd .drawB [0, 1, 3, 2, 4, 5, 6] follows (by kernel_rfl) ?_
   refine vco_run tbOk 3 rfl ?_
   refine vco_callM rfl rfl (sload_ok (hbd.le hl2) (by omega)) (fun _ _ h => by first | exact h.le | exact h.1) ?_
   rintro _ H3 ⟨hl3, vs3, rfl, hn3⟩
   obtain ⟨n3, d3, b3, rfl⟩ := hn3.cells
   refine vco_callM rfl rfl (smul_ok (N := M) hn3 ((ht.le hl2).le hl3) (by omega) (by omega) (by omega)) (fun _ _ h => by first | exact h.le | exact h.1) ?_
   rintro _ H4 ⟨hl4, vs4, rfl, hn4b⟩
   obtain ⟨n4, d4, b4, rfl⟩ := hn4b.cells
   have hsz4 := szQ_mul r.2.2 t
   refine vco_alloc el72 rfl ?_
   obtain ⟨ti, hti, htz⟩ := sz72; refine vco_bstore (.inl ⟨rfl, rfl⟩) rfl rfl rfl hti htz rfl rfl rfl ?_
   refine vco_k [1, 5, 10, 11, 32, 33, 34] ?_
   refine vc_sd .drawB [0, 1, 2, 3, 5, 7, 4, 6, 8, 9, 10] follows (by kernel_rfl) ?_
   refine vco_run tbOk 6 rfl ?_
   refine vco_callM rfl rfl (svector_ok (hco.le (ratUp N) ((hl2.trans hl3).trans hl4)) (by omega) (by omega)) (fun _ _ h => by first | exact h.le | exact h.1) ?_
   rintro v5 H5 ⟨hl5, hs5⟩
   refine vco_callM rfl rfl (sdot_ok (s := M) hs5 (hx.le numUp (((hl2.trans hl3).trans hl4).trans hl5)) (by omega) hrM hxM (by rw [hro.1]; have h9 : ((p.free.length : Int) + 2) * (2 * M + 2) ≤ 402 * (2 * M + 2) := Int.mul_le_mul_of_nonneg_right (by omega) (by omega); omega)) (fun _ _ h => by first | exact h.le | exact h.1) ?_
   rintro _ H6 ⟨hl6, vs6, rfl, hn6⟩
   obtain ⟨n6, d6, b6, rfl⟩ := hn6.cells
   have hsz6 := dot_sz (M := M) r.1.length (fn r.1) (fn x) (fun j hj => hrM _ (fn_mem hj)) (fun j hj => hxM _ (fn_mem (by omega)))
   have hsz6b : ((r.1.length * (2 * M + 2) + 1 : Nat) : Int) ≤ 1040000000801 := (by rw [hro.1]; have h9 : p.free.length * (2 * M + 2) ≤ 400 * (2 * M + 2) := Nat.mul_le_mul_right _ hn4; omega)
   refine vco_callM rfl rfl (ssub_ok (N := max (r.1.length * (2 * M + 2) + 1) (M + 1)) hn6 ((hn4b.le hl5).le hl6) (by omega) (by omega) (by omega)) (fun _ _ h => by first | exact h.le | exact h.1) ?_
   rintro _ H7 ⟨hl7, vs7, rfl, hn7⟩
   obtain ⟨n7, d7, b7, rfl⟩ := hn7.cells
   refine vco_callM rfl rfl (stands_ok hn7 (by have h9 := szQ_sub (dotN r.1.length (fn r.1) (fn x)) (r.2.2 * t); omega) hro.2) (fun _ _ h => by first | exact h.le | exact h.1) ?_
   rintro _ H8 ⟨hl8, b8, rfl, hb8⟩
   have hl9 := (((((hl2.trans hl3).trans hl4).trans hl5).trans hl6).trans hl7).trans hl8
   have hst8 : relOk r.2.1 (dotN r.1.length (fn r.1) (fn x) - r.2.2 * t) ↔ relOk (p.lp.rel i) (dotN p.lp.n (p.lp.a i) (fn x) - p.lp.b i * t) := by show _ ↔ relOk (p.row i).2.1 (dotN p.free.length (fun j => fn (p.row i).1 j) (fn x) - (p.row i).2.2 * t); rw [hrow, hro.1]
   refine vco_run tbOk 1 rfl ?_
   refine vco_k [1, 5, 32, 33, 34, 53] ?_
   refine vc_cond rfl (fun hb => ?_) (fun hb => ?_)
   ·
    have hst9 : ¬ relOk (p.lp.rel i) (dotN p.lp.n (p.lp.a i) (fn x) - p.lp.b i * t) := fun h => by have h9 := hb8.2 (hst8.2 h); rw [h9] at hb; simp at hb
    refine vc_sr ?_
    refine vco_run tbOk 1 rfl ?_
    refine vco_k [6] ?_
    refine vc_ret ⟨.inr rfl, _, .tmp rfl (.nil), ?_⟩
    exact ⟨hl9, false, rfl, ⟨(fun h => by cases h), (fun h => absurd (h.2 i him) hst9)⟩⟩
   ·
    have hst9 : relOk (p.lp.rel i) (dotN p.lp.n (p.lp.a i) (fn x) - p.lp.b i * t) := hst8.1 (hb8.1 (by simpa using hb))
    refine vc_skip ?_
    refine vc_keep [1, 5, 32, 33, 34] rfl ?_
    refine vc_region rfl ?_
    refine vco_add rfl rfl ⟨by omega, by omega⟩ ?_
    refine vco_run tbOk 1 rfl ?_
    refine vco_end ?_
    exact ⟨i + 1, by omega, sub_auto, hl9, (fun k hk => by by_cases h9 : k < i; exact hal2 k h9; (obtain rfl : k = i := by omega); exact hst9), by omega⟩
  ·
   have hb : p.rows.length ≤ i := by simpa using hb
   refine vc_exit ?_
   refine vc_keep [] rfl ?_
   refine vc_sr ?_
   refine vco_run tbOk 1 rfl ?_
   refine vco_k [6] ?_
   refine vc_ret ⟨.inr rfl, _, .tmp rfl (.nil), ?_⟩
   exact ⟨hl2, true, rfl, ⟨(fun _ => ⟨hal, fun k hk => hal2 k (Nat.lt_of_lt_of_le hk hb)⟩), fun _ => rfl⟩⟩
end Go.Eng
/- Walks over package simplex, simplex.go, part 3: Feasible, signed. -/
namespace Go.Eng
open Go.Proofs Num Lp
theorem SlV.rsize {N : Nat} {H : Heap} {v : Value} {l : List Rat} (h : SlV (RatP N) 3 H v l) : ∀ q, q ∈ l → szQ q ≤ N + 2 := fun q hq => by
  obtain ⟨A, cc, xs, _, _, _, h4⟩ := h
  obtain ⟨k, hk⟩ := List.getElem?_of_mem hq
  exact RawV.size (h4.at_ k q hk)
theorem SlV.rat {N : Nat} {H : Heap} {v : Value} {l : List Rat} (h : SlV (RatP N) 3 H v l) : ∃ A c xs, v = .slice A l.length c ∧ Rd H A xs ∧ ∀ (i : Nat) (q : Rat), l[i]? = some q → ∃ f A1 m1 c1 A2 m2 c2, RawV H (.agg #[.bool f, .slice A1 m1 c1, .slice A2 m2 c2]) q N ∧ ∀ (j : Nat) (u : Value), [.bool f, .slice A1 m1 c1, .slice A2 m2 c2][j]? = some u → xs[i * 3 + j]? = some u := by
  obtain ⟨A, c, xs, h1, _, h3, h4⟩ := h
  refine ⟨A, c, xs, h1, h3, fun i q hq => ?_⟩
  obtain ⟨vs, _, h5, h6⟩ := h4.get hq
  obtain ⟨f, u, w, l1, l2, k1, k2, k3, _⟩ := id h5
  obtain ⟨A1, c1, rfl, _⟩ := k2
  obtain ⟨A2, c2, rfl, _⟩ := k3
  obtain rfl := arr3 k1
  exact ⟨f, _, _, _, _, _, _, h5, h6⟩
theorem Valid_yes {H : Heap} {v : Value} {p : Prg} {N : Nat} (hp : ProgV N H v p) (hok : p.Ok) : Fn Tryz.prog 37 #[v] H (RetE H (.bool true)) :=
  (Valid_ok hp).mono fun v H' ⟨h1, b, h2, h3⟩ => ⟨h1, by rw [h2, h3.2 hok]⟩
theorem Valid_no {H : Heap} {v : Value} {p : Prg} {N : Nat} (hp : ProgV N H v p) (hok : ¬ p.Ok) : Fn Tryz.prog 37 #[v] H (RetE H (.bool false)) :=
  (Valid_ok hp).mono fun v H' ⟨h1, b, h2, h3⟩ => ⟨h1, by
    cases b with
    | false => exact h2
    | true => exact absurd (h3.1 rfl) hok⟩
theorem Feasible_ok {H : Heap} {v xv : Value} {p : Prg} {x : List Rat} {N : Nat} (hp : ProgV N H v p) (hx : SlV (RatP N) 3 H xv x) (hxN : (x.length : Int) ≤ 1099511627776) (hN : N ≤ 1299999998) :
  Fn Tryz.prog 38 #[v, xv] H (fun v H' => Heap.le H H' ∧ ∃ b, v = .bool b ∧ (b = true ↔ PFeas p x)) := by
 obtain ⟨fv, rv0, rfl, hfv, hrv0⟩ := id hp
 obtain ⟨Af, cf, xf, rfl, hrF, hxF⟩ := hfv.one
 obtain ⟨Ar, cr, xr, rfl, hrR, hxR⟩ := hrv0.row
 obtain ⟨Ax, cx, xx, rfl, hrX, hxX⟩ := hx.rat
 refine fn_intro (args := [_, _]) Tryz.func38 rfl rfl Tryz.ntmps38 rfl rfl fun w0 => ?_
 refine vc_keep [0, 1] rfl ?_
 refine vc_sr ?_
 refine vco_box rfl rfl ?_
 refine vco_run tbOk 1 rfl ?_
 refine vco_k [1, 2] ?_
 by_cases hok : p.Ok
 ·
  skip
  by_cases hxl : x.length = p.free.length
  ·
   skip
   refine vc_sd .drawB [0, 1, 2, 3, 4, 5, 6, 7, 8, 9, 10, 11, 12, 13, 14, 15, 16, 17] follows (by kernel_rfl) ?_
   refine vco_run tbOk 1 rfl ?_
   refine vco_callM rfl rfl (Valid_yes hp hok) (fun _ _ h => by first | exact h.le | exact h.1) ?_
   rintro v1 H1 ⟨e1, rfl⟩
   rw [e1]
   refine vco_run tbOk 6 rfl ?_
   refine vco_cmp true rfl rfl (ceq_t (by omega)) ?_
   refine vco_run tbOk 4 rfl ?_
   refine vco_callM rfl rfl (svector_ok hx (by omega) hxN) (fun _ _ h => by first | exact h.le | exact h.1) ?_
   rintro v2 H2 ⟨hl2, hs2⟩
   refine vco_callM rfl rfl (swhole_ok) (fun _ _ h => by first | exact h.le | exact h.1) ?_
   rintro v3 H3 ⟨e3, rfl⟩
   rw [e3]
   refine vco_callM rfl rfl (satisfies_ok (t := 1) (M := N + 2) (hp.le hl2) hok hs2 hxl (numV_int H2 (n := 1) (by decide) (by decide)) (by decide) hx.rsize (by omega) (by omega)) (fun _ _ h => by first | exact h.le | exact h.1) ?_
   rintro v4 H4 ⟨hl4, b4, rfl, hb4⟩
   refine vco_run tbOk 2 rfl ?_
   refine vco_k [4] ?_
   refine vc_ret ⟨.inr rfl, _, .tmp rfl (.nil), ?_⟩
   exact ⟨hl2.trans hl4, b4, rfl, ⟨(fun h => ⟨hok, hxl, hb4.1 h⟩), fun h => hb4.2 h.meets⟩⟩
  ·
   skip
   refine vc_sd .drawB [0, 1, 2, 3, 4, 5, 6, 7, 8, 9, 10, 11, 12, 13, 14, 15, 16, 17] follows (by kernel_rfl) ?_
   refine vco_run tbOk 1 rfl ?_
   refine vco_callM rfl rfl (Valid_yes hp hok) (fun _ _ h => by first | exact h.le | exact h.1) ?_
   rintro v1 H1 ⟨e1, rfl⟩
   rw [e1]
   refine vco_run tbOk 6 rfl ?_
   refine vco_cmp false rfl rfl (ceq_f (by omega)) ?_
   refine vco_run tbOk 9 rfl ?_
   refine vco_k [4] ?_
   refine vc_ret ⟨.inr rfl, _, .tmp rfl (.nil), ?_⟩
   exact ⟨.refl _, false, rfl, ⟨(fun h => by cases h), (fun h => absurd h.len hxl)⟩⟩
 ·
  skip
  refine vc_sd .drawB [0, 1, 2, 3, 4, 5, 6, 7, 8, 9, 10, 11, 12, 13, 14, 15, 16, 17] follows (by kernel_rfl) ?_
  refine vco_run tbOk 1 rfl ?_
  refine vco_callM rfl rfl (Valid_no hp hok) (fun _ _ h => by first | exact h.le | exact h.1) ?_
  rintro v1 H1 ⟨e1, rfl⟩
  rw [e1]
  refine vco_run tbOk 16 rfl ?_
  refine vco_k [4] ?_
  refine vc_ret ⟨.inr rfl, _, .tmp rfl (.nil), ?_⟩
  exact ⟨.refl _, false, rfl, ⟨(fun h => by cases h), (fun h => absurd h.ok hok)⟩⟩
theorem signed_ok {H : Heap} {v yv : Value} {p : Prg} {y : List Rat} {N : Nat} (hp : ProgV N H v p) (hok : p.Ok) (hy : SlV (RatP N) 3 H yv y) (hN : N ≤ 1299999998) :
  Fn Tryz.prog 49 #[v, yv] H (fun v H' => Heap.le H H' ∧ ∃ b, v = .bool b ∧ (b = true ↔ y.length = p.rows.length ∧ p.lp.Signed (fn y))) := by
 obtain ⟨fv, rv0, rfl, hfv, hrv0⟩ := id hp
 obtain ⟨Af, cf, xf, rfl, hrF, hxF⟩ := hfv.one
 obtain ⟨Ar, cr, xr, rfl, hrR, hxR⟩ := hrv0.row
 obtain ⟨Ay, cy, xy, rfl, hrY, hxY⟩ := hy.rat
 have hm8 := hok.rows
 refine fn_intro (args := [_, _]) Tryz.func49 rfl rfl Tryz.ntmps49 rfl rfl fun w0 => ?_
 refine vc_keep [0, 1] rfl ?_
 refine vc_sr ?_
 refine vco_box rfl rfl ?_
 refine vco_run tbOk 1 rfl ?_
 refine vco_k [1, 2] ?_
 refine vc_seq ?_
 refine vc_sr ?_
 refine vco_run tbOk 6 rfl ?_
 refine vco_k [1, 2, 13] ?_
 refine vc_cond rfl (fun hb => ?_) (fun hb => ?_)
 ·
  have hb : ¬ y.length = p.rows.length := by simpa [Int.natCast_inj] using hb
  refine vc_sr ?_
  refine vco_run tbOk 1 rfl ?_
  refine vco_k [4] ?_
  refine vc_ret ⟨.inr rfl, _, .tmp rfl (.nil), ?_⟩
  exact ⟨.refl _, false, rfl, ⟨(fun h => by cases h), (fun h => absurd h.1 hb)⟩⟩
 ·
  have hyl : y.length = p.rows.length := by simpa [Int.natCast_inj] using hb
  rw [hyl]
  refine vc_skip ?_
  refine vc_keep [1, 2] rfl ?_
  refine vc_seq ?_
  refine vc_sr ?_
  refine vco_run tbOk 4 rfl ?_
  refine vco_k [1, 15, 16, 17] ?_
  refine vc_block ?_
  refine vc_loop1 (fun (i : Nat) => p.rows.length - i) (fun (i : Nat) => put (put (put (put (emp) 1 (.val (.slice Ay p.rows.length cy))) 15 (.val (.slice Ar p.rows.length cr))) 16 (.val (.int .i64 (p.rows.length : Int)))) 17 (.val (.int .i64 (i : Int)))) (fun (i : Nat) H' => Heap.le H H' ∧ (∀ k, k < i → (p.lp.rel k = 3 → 0 ≤ fn y k) ∧ (p.lp.rel k = 1 → fn y k ≤ 0)) ∧ i ≤ p.rows.length) 0 (⟨.refl _, (fun j h => by omega), Nat.zero_le _⟩) sub_auto ?_
  rintro i H1 ⟨hl1, hal, hi⟩
  refine vc_sr ?_
  refine vco_run tbOk 1 rfl ?_
  refine vco_k [1, 15, 16, 17, 18] ?_
  refine vc_seq ?_
  refine vc_cond rfl (fun hb => ?_) (fun hb => ?_)
  ·
   have him : i < p.rows.length := by simpa using hb
   obtain ⟨r, hr⟩ : ∃ r, p.rows[i]? = some r := ⟨_, List.getElem?_eq_getElem him⟩
   obtain ⟨A0, c0, f, A1, m1, c1, A2, m2, c2, hrp, hrx⟩ := hxR i r hr
   have hrel : p.lp.rel i = r.2.1 := by show (p.row i).2.1 = _; rw [Prg.row_get hr]
   obtain ⟨q, hqk⟩ : ∃ q, y[i]? = some q := ⟨_, List.getElem?_eq_getElem (by omega)⟩
   obtain ⟨g, B1, k1, e1, B2, k2, e2, hraw, hqx⟩ := hxY i q hqk
   have hfq : fn y i = q := fn_get hqk
   refine vc_skip ?_
   refine vc_keep [1, 15, 16, 17] rfl ?_
   refine vc_seq ?_
   refine vc_block ?_
   refine vc_sr ?_
   refine vco_run tbOk 1 rfl ?_
   refine vco_at_st (vs := [.slice A0 r.1.length c0, .int .i64 r.2.1, .bool f, .slice A1 m1 c1, .slice A2 m2 c2]) tbOk rfl rfl rfl rfl (hrR.le hl1) rfl (by decide) hrx (by omega) (by omega) fun _ => ?_
   refine vco_alloc el46 rfl ?_
   refine vco_run tbOk 1 rfl ?_
   obtain ⟨ti, hti, htz⟩ := sz46; refine vco_bstore (.inl ⟨rfl, rfl⟩) rfl rfl rfl hti htz rfl rfl rfl ?_
   refine vco_k [1, 5, 6, 15, 16, 17] ?_
   refine vc_sr ?_
   refine vco_run tbOk 2 rfl ?_
   refine vco_at_st (vs := [.bool g, .slice B1 k1 e1, .slice B2 k2 e2]) tbOk rfl rfl rfl rfl (hrY.le hl1) rfl (by decide) hqx (by omega) (by omega) fun _ => ?_
   refine vco_call rfl rfl (Sign_ok (hraw.le hl1) (by omega)) ?_
   rintro v2 H2 ⟨hl2, rfl⟩
   refine vco_run tbOk 1 rfl ?_
   refine vco_k [1, 6, 7, 15, 16, 17] ?_
   by_cases h3 : r.2.1 = 3
   ·
    skip
    by_cases hs : sgnQ q < 0
    ·
     skip
     refine vc_sr ?_
     refine vco_run tbOk 2 rfl ?_
     refine vco_cmp true rfl rfl (ceq_t h3) ?_
     refine vco_run tbOk 2 rfl ?_
     refine vco_cmp true rfl rfl (clt_t hs) ?_
     refine vco_run tbOk 10 rfl ?_
     refine vco_k [1, 15, 16, 17, 42] ?_
     refine vc_cond_t rfl ?_
     refine vc_sr ?_
     refine vco_run tbOk 1 rfl ?_
     refine vco_k [4] ?_
     refine vc_ret ⟨.inr rfl, _, .tmp rfl (.nil), ?_⟩
     exact ⟨hl1.trans hl2, false, rfl, ⟨(fun h => by cases h), (fun h => by have h9 := (h.2 i him).1 (by omega); rw [hfq] at h9; have h8 := sgn_ge.2 h9; omega)⟩⟩
    ·
     skip
     refine vc_sr ?_
     refine vco_run tbOk 2 rfl ?_
     refine vco_cmp true rfl rfl (ceq_t h3) ?_
     refine vco_run tbOk 2 rfl ?_
     refine vco_cmp false rfl rfl (clt_f (by omega)) ?_
     refine vco_run tbOk 4 rfl ?_
     refine vco_cmp false rfl rfl (ceq_f (by omega)) ?_
     refine vco_run tbOk 5 rfl ?_
     refine vco_k [1, 15, 16, 17, 42] ?_
     refine vc_cond_f rfl ?_
     refine vc_skip ?_
     refine vc_keep [1, 15, 16, 17] rfl ?_
     refine vc_region rfl ?_
     refine vco_add rfl rfl ⟨by omega, by omega⟩ ?_
     refine vco_run tbOk 1 rfl ?_
     refine vco_end ?_
     exact ⟨i + 1, by omega, sub_auto, hl1.trans hl2, (fun k hk => by by_cases h9 : k < i; exact hal k h9; (obtain rfl : k = i := by omega); rw [hrel, hfq]; exact ⟨fun _ => sgn_ge.1 (by omega), fun e => by omega⟩), by omega⟩
   ·
    skip
    by_cases h1 : r.2.1 = 1
    ·
     skip
     by_cases hs : 0 < sgnQ q
     ·
      skip
      refine vc_sr ?_
      refine vco_run tbOk 2 rfl ?_
      refine vco_cmp false rfl rfl (ceq_f h3) ?_
      refine vco_run tbOk 7 rfl ?_
      refine vco_cmp true rfl rfl (ceq_t h1) ?_
      refine vco_run tbOk 2 rfl ?_
      refine vco_cmp true rfl rfl (cgt_t hs) ?_
      refine vco_run tbOk 2 rfl ?_
      refine vco_k [1, 15, 16, 17, 42] ?_
      refine vc_cond_t rfl ?_
      refine vc_sr ?_
      refine vco_run tbOk 1 rfl ?_
      refine vco_k [4] ?_
      refine vc_ret ⟨.inr rfl, _, .tmp rfl (.nil), ?_⟩
      exact ⟨hl1.trans hl2, false, rfl, ⟨(fun h => by cases h), (fun h => by have h9 := (h.2 i him).2 (by omega); rw [hfq] at h9; have h8 := sgn_le.2 h9; omega)⟩⟩
     ·
      skip
      refine vc_sr ?_
      refine vco_run tbOk 2 rfl ?_
      refine vco_cmp false rfl rfl (ceq_f h3) ?_
      refine vco_run tbOk 7 rfl ?_
      refine vco_cmp true rfl rfl (ceq_t h1) ?_
      refine vco_run tbOk 2 rfl ?_
      refine vco_cmp false rfl rfl (cgt_f (by omega)) ?_
      refine vco_run tbOk 2 rfl ?_
      refine vco_k [1, 15, 16, 17, 42] ?_
      refine vc_cond_f rfl ?_
      refine vc_skip ?_
      refine vc_keep [1, 15, 16, 17] rfl ?_
      refine vc_region rfl ?_
      refine vco_add rfl rfl ⟨by omega, by omega⟩ ?_
      refine vco_run tbOk 1 rfl ?_
      refine vco_end ?_
      exact ⟨i + 1, by omega, sub_auto, hl1.trans hl2, (fun k hk => by by_cases h9 : k < i; exact hal k h9; (obtain rfl : k = i := by omega); rw [hrel, hfq]; exact ⟨fun e => by omega, fun _ => sgn_le.1 (by omega)⟩), by omega⟩
    ·
     skip
     refine vc_sr ?_
     refine vco_run tbOk 2 rfl ?_
     refine vco_cmp false rfl rfl (ceq_f h3) ?_
     refine vco_run tbOk 7 rfl ?_
     refine vco_cmp false rfl rfl (ceq_f h1) ?_
     refine vco_run tbOk 5 rfl ?_
     refine vco_k [1, 15, 16, 17, 42] ?_
     refine vc_cond_f rfl ?_
     refine vc_skip ?_
     refine vc_keep [1, 15, 16, 17] rfl ?_
     refine vc_region rfl ?_
     refine vco_add rfl rfl ⟨by omega, by omega⟩ ?_
     refine vco_run tbOk 1 rfl ?_
     refine vco_end ?_
     exact ⟨i + 1, by omega, sub_auto, hl1.trans hl2, (fun k hk => by by_cases h9 : k < i; exact hal k h9; (obtain rfl : k = i := by omega); rw [hrel, hfq]; exact ⟨fun e => by omega, fun e => by omega⟩), by omega⟩
  ·
   have hb : p.rows.length ≤ i := by simpa using hb
   refine vc_exit ?_
   refine vc_keep [] rfl ?_
   refine vc_sr ?_
   refine vco_run tbOk 1 rfl ?_
   refine vco_k [4] ?_
   refine vc_ret ⟨.inr rfl, _, .tmp rfl (.nil), ?_⟩
   exact ⟨hl1, true, rfl, ⟨(fun _ => ⟨rfl, fun k hk => hal k (Nat.lt_of_lt_of_le hk hb)⟩), fun _ => rfl⟩⟩
end Go.Eng
/- Walks over package simplex, simplex.go, part 4: sums. -/
namespace Go.Eng
open Go.Proofs Num Lp
/-- The sums over the first rows. -/
def csk (p : Prg) (y : List Rat) (i j : Nat) : Rat := sumN i (fun k => fn y k * p.lp.a k j)
def bsk (p : Prg) (y : List Rat) (i : Nat) : Rat := sumN i (fun k => fn y k * p.lp.b k)
theorem csk_succ (p : Prg) (y : List Rat) (i j : Nat) : csk p y (i + 1) j = csk p y i j + fn y i * p.lp.a i j := rfl
theorem bsk_succ (p : Prg) (y : List Rat) (i : Nat) : bsk p y (i + 1) = bsk p y i + fn y i * p.lp.b i := rfl
theorem work_nil {H H' : Heap} {z : Nat} {xs : List Value} {s e : Nat} (h : Work [] H H' z xs s e) : Heap.le H (rem H' [z]) := by
  have := h.le; rwa [rem_nil] at this
theorem Prg.a_sz {p : Prg} {M : Nat} (h : ∀ (i : Nat) (r : List Rat × Int × Rat), p.rows[i]? = some r → ∀ q, q ∈ r.1 → szQ q ≤ M) (h1 : 1 ≤ M) (k j : Nat) (hk : k < p.rows.length) : szQ (p.lp.a k j) ≤ M := by
  show szQ (fn (p.row k).1 j) ≤ M
  rw [Prg.row_get (List.getElem?_eq_getElem hk)]
  by_cases hj : j < (p.rows[k]).1.length
  · exact h k _ (List.getElem?_eq_getElem hk) _ (fn_mem hj)
  · rw [fn_out (by omega)]; exact Nat.le_trans (show szQ (0 : Rat) ≤ 1 by decide) h1
theorem sums_ok {H : Heap} {v yv : Value} {p : Prg} {y : List Rat} {N : Nat} (hp : ProgV N H v p) (hok : p.Ok) (hy : SlV (RatP N) 3 H yv y) (hyl : y.length = p.rows.length) (hN : N ≤ 600000000) :
  Fn Tryz.prog 50 #[v, yv] H (fun v H' => Heap.le H H' ∧ ∃ sv ns, v = .tuple #[sv, .agg ns.toArray] ∧ SlV NumV 3 H' sv (vals (p.lp.colsum (fn y)) p.free.length) ∧ NumV H' ns (p.lp.bndsum (fn y))) := by
 obtain ⟨fv, rv0, rfl, hfv, hrv0⟩ := id hp
 obtain ⟨Af, cf, xf, rfl, hrF, hxF⟩ := hfv.one
 obtain ⟨Ar, cr, xr, rfl, hrR, hxR⟩ := hrv0.row
 obtain ⟨Ay, cy, xy, rfl, hrY, hxY⟩ := hy.rat
 rw [hyl] at hy ⊢
 have hn4 := hok.cols
 have hm8 := hok.rows
 have hyM := hy.rsize
 have haM : ∀ (i : Nat) (r : List Rat × Int × Rat), p.rows[i]? = some r → ∀ q, q ∈ r.1 → szQ q ≤ N + 2 := fun i r hr => by
  obtain ⟨A0, c0, f, A1, m1, c1, A2, m2, c2, hrp, hrx⟩ := hxR i r hr
  exact RowP.size hrp
 have hcs : ∀ i j, i ≤ p.rows.length → szQ (csk p y i j) ≤ 800 * (2 * (N + 2) + 2) + 1 := fun i j hi => by
  have h9 := dot_sz (M := N + 2) i (fn y) (fun k => p.lp.a k j) (fun k hk => hyM _ (fn_mem (by omega))) (fun k hk => Prg.a_sz haM (by omega) k j (by omega))
  have h8 : i * (2 * (N + 2) + 2) ≤ 800 * (2 * (N + 2) + 2) := Nat.mul_le_mul_right _ (by omega)
  exact Nat.le_trans h9 (by omega)
 have hbs : ∀ i, i ≤ p.rows.length → szQ (bsk p y i) ≤ 800 * (2 * (N + 2) + 2) + 1 := fun i hi => by
  have h9 := dot_sz (M := N + 2) i (fn y) p.lp.b (fun k hk => hyM _ (fn_mem (by omega))) (fun k hk => by
   obtain ⟨A0, c0, f, A1, m1, c1, A2, m2, c2, hrp, hrx⟩ := hxR k _ (List.getElem?_eq_getElem (show k < p.rows.length by omega))
   have h7 := (RowP.bound hrp).size
   show szQ (p.row k).2.2 ≤ _
   rw [Prg.row_get (List.getElem?_eq_getElem (show k < p.rows.length by omega))]; exact h7)
  have h8 : i * (2 * (N + 2) + 2) ≤ 800 * (2 * (N + 2) + 2) := Nat.mul_le_mul_right _ (by omega)
  exact Nat.le_trans h9 (by omega)
 refine fn_intro (args := [_, _]) Tryz.func50 rfl rfl Tryz.ntmps50 rfl rfl fun w0 => ?_
 refine vc_keep [0, 1] rfl ?_
 refine vc_sr ?_
 refine vco_box rfl rfl ?_
 refine vco_run tbOk 1 rfl ?_
 refine vco_alloc el72 rfl ?_
 refine vco_k [1, 2, 5] ?_
 refine vc_sr ?_
 refine vco_run tbOk 3 rfl ?_
 refine vco_call rfl rfl (zeros_fr (gs := []) (n := p.free.length) (fun q hq => by cases hq) (by omega)) ?_
 rintro v1 H1 ⟨hl1, z, xs0, rfl, hwk1, hel1⟩
 refine vco_run tbOk 1 rfl ?_
 refine vco_k [1, 2, 4, 5] ?_
 refine vc_sr ?_
 refine vco_call rfl rfl (swhole_ok) ?_
 rintro v2 H2 ⟨e2, rfl⟩
 rw [e2]
 obtain ⟨ti, hti, htz⟩ := sz72; refine vco_bstore (.inl ⟨rfl, rfl⟩) rfl rfl rfl hti htz rfl rfl rfl ?_
 refine vco_k [1, 2, 4, 5] ?_
 refine vc_seq ?_
 refine vc_sr ?_
 refine vco_run tbOk 4 rfl ?_
 refine vco_k [1, 4, 5, 17, 18, 19] ?_
 refine vc_block ?_
 refine vc_loop3 (fun (i : Nat) (xs : List Value) (t : Int × Int × Option Addr) => p.rows.length - i) (fun (i : Nat) (xs : List Value) (t : Int × Int × Option Addr) => put (put (put (put (put (put (emp) 1 (.val (.slice Ay p.rows.length cy))) 4 (.val (.slice (some ⟨z, 0, none⟩) p.free.length p.free.length))) 5 (.box [.int .i64 t.1, .int .i64 t.2.1, .pointer t.2.2])) 17 (.val (.slice Ar p.rows.length cr))) 18 (.val (.int .i64 (p.rows.length : Int)))) 19 (.val (.int .i64 (i : Int)))) (fun (i : Nat) (xs : List Value) (t : Int × Int × Option Addr) H' => Work [] H H' z xs (p.free.length * 3) 72 ∧ Els (NumV (rem H' [z])) 3 xs (vals (csk p y i) p.free.length) ∧ NumV (rem H' [z]) [.int .i64 t.1, .int .i64 t.2.1, .pointer t.2.2] (bsk p y i) ∧ i ≤ p.rows.length) 0 xs0 (0, 1, none) (⟨hwk1, hel1 _, numV_int _ (n := 0) (by decide) (by decide), Nat.zero_le _⟩) sub_auto ?_
 rintro i xs t H3 ⟨hwk3, hel3, hbt3, hi3⟩
 have hle3 := work_nil hwk3
 refine vc_sr ?_
 refine vco_run tbOk 1 rfl ?_
 refine vco_k [1, 4, 5, 17, 18, 19, 20] ?_
 refine vc_seq ?_
 refine vc_cond rfl (fun hb => ?_) (fun hb => ?_)
 ·
  have him : i < p.rows.length := by simpa using hb
  obtain ⟨r, hr⟩ : ∃ r, p.rows[i]? = some r := ⟨_, List.getElem?_eq_getElem him⟩
  obtain ⟨A0, c0, f, A1, m1, c1, A2, m2, c2, hrp, hrx⟩ := hxR i r hr
  have hrow : p.row i = r := Prg.row_get hr
  have hbd : RawV H (.agg #[.bool f, .slice A1 m1 c1, .slice A2 m2 c2]) r.2.2 N := RowP.bound hrp
  have hszb := hbd.size
  have hrl : r.1.length = p.free.length := (hok.row i r hr).1
  have hco : SlV (RatP N) 3 H (.slice A0 r.1.length c0) r.1 := RowP.coef hrp
  obtain ⟨A0', c0', x0, hE0, hr0, hx0⟩ := hco.rat
  obtain ⟨rfl, -, rfl⟩ : A0 = A0' ∧ r.1.length = r.1.length ∧ c0 = c0' := by simpa using hE0
  obtain ⟨q, hqk⟩ : ∃ q, y[i]? = some q := ⟨_, List.getElem?_eq_getElem (by omega)⟩
  obtain ⟨g, B1, k1, e1, B2, k2, e2, hraw, hqx⟩ := hxY i q hqk
  have hfq : fn y i = q := fn_get hqk
  have hszq := hyM q (List.mem_of_getElem? hqk)
  refine vc_skip ?_
  refine vc_keep [1, 4, 5, 17, 18, 19] rfl ?_
  refine vc_seq ?_
  refine vc_block ?_
  refine vc_sr ?_
  refine vco_run tbOk 1 rfl ?_
  refine vco_at_st (vs := [.slice A0 r.1.length c0, .int .i64 r.2.1, .bool f, .slice A1 m1 c1, .slice A2 m2 c2]) tbOk rfl rfl rfl rfl (hrR.le hwk3.hle) rfl (by decide) hrx (by omega) (by omega) fun _ => ?_
  refine vco_alloc el46 rfl ?_
  refine vco_run tbOk 1 rfl ?_
  obtain ⟨ti, hti, htz⟩ := sz46; refine vco_bstore (.inl ⟨rfl, rfl⟩) rfl rfl rfl hti htz rfl rfl rfl ?_
  refine vco_k [1, 4, 5, 6, 7, 17, 18, 19] ?_
  refine vc_sr ?_
  refine vco_run tbOk 2 rfl ?_
  refine vco_at_st (vs := [.bool g, .slice B1 k1 e1, .slice B2 k2 e2]) tbOk rfl rfl rfl rfl (hrY.le hwk3.hle) rfl (by decide) hqx (by omega) (by omega) fun _ => ?_
  refine vco_call rfl rfl (Fn.frM (gs := [z]) (hwk3.ne (fun q hq => by cases hq)) (sload_ok (hraw.le hle3) (by omega))) ?_
  rintro v4 H4 ⟨hk4, hl4, n4, d4, b4, rfl, hq4⟩
  have hwk4 := hwk3.kept hk4
  refine vco_alloc el72 rfl ?_
  obtain ⟨ti, hti, htz⟩ := sz72; refine vco_bstore (.inl ⟨rfl, rfl⟩) rfl rfl rfl hti htz rfl rfl rfl ?_
  refine vco_k [1, 4, 5, 7, 8, 17, 18, 19] ?_
  refine vc_seq ?_
  refine vc_sr ?_
  refine vco_run tbOk 1 rfl ?_
  refine vco_call rfl rfl (Fn.frI (gs := [z]) (hwk4.ne (fun q hq => by cases hq)) (ssign_ok hq4 (by omega))) ?_
  rintro v5 H5 ⟨hk5a, hl5, rfl⟩
  have hwk5 := hwk4.kept hk5a
  have hk5 := hk4.trans hk5a
  have hq5 := hq4.le hk5a.le
  refine vco_run tbOk 1 rfl ?_
  refine vco_k [1, 4, 5, 7, 8, 17, 18, 19, 31] ?_
  refine vc_cond rfl (fun hb => ?_) (fun hb => ?_)
  ·
   have hq0 : q = 0 := sgn_eq.1 (by simpa using hb)
   refine vc_exit ?_
   refine vc_keep [1, 4, 5, 17, 18, 19] rfl ?_
   refine vc_region rfl ?_
   refine vco_add rfl rfl ⟨by omega, by omega⟩ ?_
   refine vco_run tbOk 1 rfl ?_
   refine vco_end ?_
   exact ⟨i + 1, xs, t, by omega, sub_auto, hwk5, by rw [vals_congr (g := csk p y i) (fun j _ => by rw [csk_succ, hfq, hq0]; grind)]; exact hel3.mono fun vs a => numUp _ _ vs a hk5.le, by rw [bsk_succ, hfq, hq0, show bsk p y i + 0 * p.lp.b i = bsk p y i by grind]; exact hbt3.le hk5.le, by omega⟩
  ·
   clear hb
   refine vc_skip ?_
   refine vc_keep [1, 4, 5, 7, 8, 17, 18, 19] rfl ?_
   refine vc_seq ?_
   refine vc_sr ?_
   refine vco_run tbOk 4 rfl ?_
   refine vco_k [1, 4, 5, 7, 8, 17, 18, 19, 33, 34, 35] ?_
   refine vc_block ?_
   refine vc_loop2 (fun (j : Nat) (ys : List Value) => p.free.length - j) (fun (j : Nat) (ys : List Value) => put (put (put (put (put (put (put (put (put (put (put (emp) 1 (.val (.slice Ay p.rows.length cy))) 4 (.val (.slice (some ⟨z, 0, none⟩) p.free.length p.free.length))) 5 (.box [.int .i64 t.1, .int .i64 t.2.1, .pointer t.2.2])) 17 (.val (.slice Ar p.rows.length cr))) 18 (.val (.int .i64 (p.rows.length : Int)))) 19 (.val (.int .i64 (i : Int)))) 7 (.box [.slice A0 r.1.length c0, .int .i64 r.2.1, .bool f, .slice A1 m1 c1, .slice A2 m2 c2])) 8 (.box [.int .i64 n4, .int .i64 d4, .pointer b4])) 33 (.val (.slice A0 r.1.length c0))) 34 (.val (.int .i64 (r.1.length : Int)))) 35 (.val (.int .i64 (j : Int)))) (fun (j : Nat) (ys : List Value) H' => Work [] H H' z ys (p.free.length * 3) 72 ∧ Els (NumV (rem H' [z])) 3 ys (vals (mixf (csk p y (i + 1)) (csk p y i) j) p.free.length) ∧ Heap.le (rem H5 [z]) (rem H' [z]) ∧ j ≤ p.free.length) 0 xs (⟨hwk5, by rw [vals_congr (g := csk p y i) (fun j _ => by simp [mixf])]; exact hel3.mono fun vs a => numUp _ _ vs a hk5.le, .refl _, Nat.zero_le _⟩) sub_auto ?_
   rintro j ys H6 ⟨hwk6, hel6, hle6, hj6⟩
   have hxl6 := hel6.len
   rw [vals_len] at hxl6
   have hle6H := work_nil hwk6
   refine vc_sr ?_
   refine vco_run tbOk 1 rfl ?_
   refine vco_k [1, 4, 5, 7, 8, 17, 18, 19, 33, 34, 35, 36] ?_
   refine vc_seq ?_
   refine vc_cond rfl (fun hb => ?_) (fun hb => ?_)
   ·
    have hjn : j < p.free.length := by have h9 : j < r.1.length := (by simpa using hb); omega
    obtain ⟨a, hak⟩ : ∃ a, r.1[j]? = some a := ⟨_, List.getElem?_eq_getElem (by omega)⟩
    obtain ⟨g7, D1, l1, o1, D2, l2, o2, hraw7, hqx7⟩ := hx0 j a hak
    have haj : p.lp.a i j = a := by show fn (p.row i).1 j = a; rw [hrow]; exact fn_get hak
    have hsza := haM i r hr a (List.mem_of_getElem? hak)
    obtain ⟨vs8, _, hn8, hx8⟩ := hel6.get (vals_get hjn)
    obtain ⟨n8, d8, b8, rfl⟩ := hn8.cells
    rw [show mixf (csk p y (i + 1)) (csk p y i) j j = csk p y i j by simp [mixf]] at hn8
    have hszc := hcs i j (by omega)
    refine vc_skip ?_
    refine vc_keep [1, 4, 5, 7, 8, 17, 18, 19, 33, 34, 35] rfl ?_
    refine vc_seq ?_
    refine vc_block ?_
    refine vc_sr ?_
    refine vco_run tbOk 1 rfl ?_
    refine vco_at_st (vs := [.bool g7, .slice D1 l1 o1, .slice D2 l2 o2]) tbOk rfl rfl rfl rfl (hr0.le hwk6.hle) rfl (by decide) hqx7 (by omega) (by omega) fun _ => ?_
    refine vco_alloc el34 rfl ?_
    refine vco_run tbOk 1 rfl ?_
    obtain ⟨ti, hti, htz⟩ := sz34; refine vco_bstore (.inl ⟨rfl, rfl⟩) rfl rfl rfl hti htz rfl rfl rfl ?_
    refine vco_k [1, 4, 5, 7, 8, 9, 10, 17, 18, 19, 33, 34, 35] ?_
    refine vc_draw .drawH [0, 1, 2, 3, 4, 5, 6, 7, 8, 9, 10, 11, 12] follows (by kernel_rfl) ?_
    refine vco_run tbOk 4 rfl ?_
    refine vco_at_st (vs := [.int .i64 n8, .int .i64 d8, .pointer b8]) tbOk rfl rfl rfl rfl (rd_at hwk6.blk) rfl (by decide) hx8 (by omega) (by omega) fun _ => ?_
    refine vco_run tbOk 2 rfl ?_
    refine vco_callM rfl rfl (Fn.frM (gs := [z]) (hwk6.ne (fun q hq => by cases hq)) (sload_ok (hraw7.le hle6H) (by omega))) (fun _ _ h => by first | exact h.le | exact h.1) ?_
    rintro v7 H7 ⟨hk7, hl7, n7, d7, b7, rfl, hq7⟩
    have hwk7 := hwk6.kept hk7
    refine vco_callM rfl rfl (Fn.frM (gs := [z]) (hwk7.ne (fun q hq => by cases hq)) (smul_ok (N := N + 2) ((hq5.le hle6).le hk7.le) hq7 hszq hsza (by omega))) (fun _ _ h => by first | exact h.le | exact h.1) ?_
    rintro v9 H8 ⟨hk8, hl8, n9, d9, b9, rfl, hq8⟩
    have hwk8 := hwk7.kept hk8
    have hszm := szQ_mul q a
    refine vco_callM rfl rfl (Fn.frM (gs := [z]) (hwk8.ne (fun q hq => by cases hq)) (sadd_ok (N := 800 * (2 * (N + 2) + 2) + 1) ((hn8.le hk7.le).le hk8.le) hq8 hszc (by omega) (by omega))) (fun _ _ h => by first | exact h.le | exact h.1) ?_
    rintro v10 H9 ⟨hk9, hl9, n10, d10, b10, rfl, hq9⟩
    have hwk9 := hwk8.kept hk9
    obtain ⟨ti, hti, htz⟩ := sz72; refine vco_set (.inr rfl) tbOk rfl rfl rfl (by omega) (by omega) (hwk9.blk) rfl (by show 0 + p.free.length * 3 ≤ ys.length; omega) hti htz (fun _ => rfl) rfl rfl rfl fun _ => ?_
    refine vco_end ?_
    refine vc_keep [1, 4, 5, 7, 8, 17, 18, 19, 33, 34, 35] rfl ?_
    refine vc_region rfl ?_
    refine vco_add rfl rfl ⟨by omega, by omega⟩ ?_
    refine vco_run tbOk 1 rfl ?_
    refine vco_end ?_
    exact ⟨j + 1, splice ys (j * 3) [.int .i64 n10, .int .i64 d10, .pointer b10], by omega, sub_auto, hwk9.set (by rw [Int.toNat_natCast]; exact ent_set), by rw [rem_ins_in _ (List.mem_cons_self ..), ← mix_set]; exact (hel6.mono fun vs a => numUp _ _ vs a ((hk7.le.trans hk8.le).trans hk9.le)).set (by rw [vals_len]; exact hjn) (by rw [csk_succ, hfq, haj]; exact hq9) hq9.len, by rw [rem_ins_in _ (List.mem_cons_self ..)]; exact ((hle6.trans hk7.le).trans hk8.le).trans hk9.le, by omega⟩
   ·
    have hb : p.free.length ≤ j := by have h9 : r.1.length ≤ j := (by simpa using hb); omega
    obtain rfl : p.free.length = j := by omega
    have hszc := hbs i (by omega)
    refine vc_exit ?_
    refine vc_keep [1, 4, 5, 7, 8, 17, 18, 19] rfl ?_
    refine vc_draw .drawB [0, 1, 2, 3, 4, 5, 6, 7] follows (by kernel_rfl) ?_
    refine vco_run tbOk 4 rfl ?_
    refine vco_callM rfl rfl (Fn.frM (gs := [z]) (hwk6.ne (fun q hq => by cases hq)) (sload_ok (hbd.le hle6H) (by omega))) (fun _ _ h => by first | exact h.le | exact h.1) ?_
    rintro v11 H10 ⟨hk10, hl10, n11, d11, b11, rfl, hq11⟩
    have hwk10 := hwk6.kept hk10
    refine vco_callM rfl rfl (Fn.frM (gs := [z]) (hwk10.ne (fun q hq => by cases hq)) (smul_ok (N := N + 2) ((hq5.le hle6).le hk10.le) hq11 hszq (by omega) (by omega))) (fun _ _ h => by first | exact h.le | exact h.1) ?_
    rintro v12 H11 ⟨hk11, hl11, n12, d12, b12, rfl, hq12⟩
    have hwk11 := hwk10.kept hk11
    have hszm := szQ_mul q r.2.2
    refine vco_callM rfl rfl (Fn.frM (gs := [z]) (hwk11.ne (fun q hq => by cases hq)) (sadd_ok (N := 800 * (2 * (N + 2) + 2) + 1) ((((hbt3.le hk5.le).le hle6).le hk10.le).le hk11.le) hq12 hszc (by omega) (by omega))) (fun _ _ h => by first | exact h.le | exact h.1) ?_
    rintro v13 H12 ⟨hk12, hl12, n13, d13, b13, rfl, hq13⟩
    have hwk13 := hwk11.kept hk12
    have hel13 : Els (NumV (rem H12 [z])) 3 ys (vals (csk p y (i + 1)) p.free.length) := by rw [vals_congr (g := mixf (csk p y (i + 1)) (csk p y i) p.free.length) (fun j hj => by simp [mixf, hj])]; exact hel6.mono fun vs a => numUp _ _ vs a ((hk10.le.trans hk11.le).trans hk12.le)
    rw [show bsk p y i + q * r.2.2 = bsk p y (i + 1) by rw [bsk_succ, hfq]; show _ = _ + q * (p.row i).2.2; rw [hrow]] at hq13
    obtain ⟨ti, hti, htz⟩ := sz72; refine vco_bstore (.inl ⟨rfl, rfl⟩) rfl rfl rfl hti htz rfl rfl rfl ?_
    refine vco_end ?_
    refine vc_keep [1, 4, 5, 17, 18, 19] rfl ?_
    refine vc_region rfl ?_
    refine vco_add rfl rfl ⟨by omega, by omega⟩ ?_
    refine vco_run tbOk 1 rfl ?_
    refine vco_end ?_
    exact ⟨i + 1, _, (n13, d13, b13), by omega, sub_auto, hwk13, hel13, hq13, by omega⟩
 ·
  have hb : p.rows.length ≤ i := by simpa using hb
  obtain rfl : p.rows.length = i := by omega
  refine vc_exit ?_
  refine vc_keep [4, 5] rfl ?_
  refine vc_sd .drawB [0, 1, 2, 3] follows (by kernel_rfl) ?_
  refine vco_run tbOk 3 rfl ?_
  obtain ⟨ti, hti, htz⟩ := sz72; refine vco_bstore (.inl ⟨rfl, rfl⟩) rfl rfl rfl hti htz rfl rfl rfl ?_
  refine vco_k [4, 5] ?_
  obtain ⟨ri1, rhi1, rhz1⟩ := sz72; refine vc_ret ⟨.inr rfl, _, .tmp rfl (.agg rfl Tryz.underlying72 rhi1 rhz1 (.nil)), ?_⟩
  exact ⟨hwk3.hle, _, _, rfl, ⟨some ⟨z, 0, none⟩, _, xs, by rw [vals_len], by rw [vals_len]; exact Nat.le_refl _, rd_at hwk3.blk, hel3.mono fun vs a => numUp _ _ vs a (rem_le _ _)⟩, hbt3.le (rem_le _ _)⟩
end Go.Eng
/- Walks over package simplex, simplex.go, part 5: CheckInfeasible, CheckUnbounded. -/
namespace Go.Eng
open Go.Proofs Num Lp
theorem sums_sz {H : Heap} {v yv : Value} {p : Prg} {y : List Rat} {N : Nat} (hp : ProgV N H v p) (hok : p.Ok) (hy : SlV (RatP N) 3 H yv y) (hyl : y.length = p.rows.length) : (∀ j, szQ (p.lp.colsum (fn y) j) ≤ 800 * (2 * (N + 2) + 2) + 1) ∧ szQ (p.lp.bndsum (fn y)) ≤ 800 * (2 * (N + 2) + 2) + 1 := by
  obtain ⟨fv, rv0, rfl, hfv, hrv0⟩ := id hp
  obtain ⟨Ar, cr, xr, rfl, hrR, hxR⟩ := hrv0.row
  have hyM := hy.rsize
  have hm8 := hok.rows
  have haM : ∀ (i : Nat) (r : List Rat × Int × Rat), p.rows[i]? = some r → ∀ q, q ∈ r.1 → szQ q ≤ N + 2 := fun i r hr => by
    obtain ⟨A0, c0, f, A1, m1, c1, A2, m2, c2, hrp, hrx⟩ := hxR i r hr
    exact RowP.size hrp
  have h8 : p.rows.length * (2 * (N + 2) + 2) ≤ 800 * (2 * (N + 2) + 2) := Nat.mul_le_mul_right _ hm8
  refine ⟨fun j => ?_, ?_⟩
  · have h9 := dot_sz (M := N + 2) p.rows.length (fn y) (fun k => p.lp.a k j) (fun k hk => hyM _ (fn_mem (by omega))) (fun k hk => Prg.a_sz haM (by omega) k j (by omega))
    exact Nat.le_trans h9 (by omega)
  · have h9 := dot_sz (M := N + 2) p.rows.length (fn y) p.lp.b (fun k hk => hyM _ (fn_mem (by omega))) (fun k hk => by
      obtain ⟨A0, c0, f, A1, m1, c1, A2, m2, c2, hrp, hrx⟩ := hxR k _ (List.getElem?_eq_getElem hk)
      have h7 := (RowP.bound hrp).size
      show szQ (p.row k).2.2 ≤ _
      rw [Prg.row_get (List.getElem?_eq_getElem hk)]; exact h7)
    exact Nat.le_trans h9 (by omega)
theorem CheckInfeasible_ok {H : Heap} {v yv : Value} {p : Prg} {y : List Rat} {N : Nat} (hp : ProgV N H v p) (hy : SlV (RatP N) 3 H yv y) (hN : N ≤ 600000000) :
  Fn Tryz.prog 19 #[v, yv] H (fun v H' => Heap.le H H' ∧ ∃ b, v = .bool b ∧ (b = true ↔ ChkInf p y)) := by
 obtain ⟨fv, rv0, rfl, hfv, hrv0⟩ := id hp
 obtain ⟨Af, cf, xf, rfl, hrF, hxF⟩ := hfv.one
 obtain ⟨Ar, cr, xr, rfl, hrR, hxR⟩ := hrv0.row
 obtain ⟨Ay, cy, xy, rfl, hrY, hxY⟩ := hy.rat
 refine fn_intro (args := [_, _]) Tryz.func19 rfl rfl Tryz.ntmps19 rfl rfl fun w0 => ?_
 refine vc_keep [0, 1] rfl ?_
 refine vc_sr ?_
 refine vco_box rfl rfl ?_
 refine vco_run tbOk 1 rfl ?_
 refine vco_k [1, 2] ?_
 refine vc_seq ?_
 by_cases hok : p.Ok
 ·
  skip
  refine vc_sr ?_
  refine vco_run tbOk 1 rfl ?_
  refine vco_call rfl rfl (Valid_yes hp hok) ?_
  rintro v1 H1 ⟨e1, rfl⟩
  rw [e1]
  refine vco_run tbOk 4 rfl ?_
  refine vco_call rfl rfl (signed_ok hp hok hy (by omega)) ?_
  rintro v2 H2 ⟨hl2, b2, rfl, hb2⟩
  refine vco_run tbOk 2 rfl ?_
  refine vco_k [1, 2, 18] ?_
  refine vc_cond rfl (fun hb => ?_) (fun hb => ?_)
  ·
   have hb : ¬ (y.length = p.rows.length ∧ p.lp.Signed (fn y)) := fun h => by have h9 := hb2.2 h; rw [h9] at hb; simp at hb
   refine vc_sr ?_
   refine vco_run tbOk 1 rfl ?_
   refine vco_k [4] ?_
   refine vc_ret ⟨.inr rfl, _, .tmp rfl (.nil), ?_⟩
   exact ⟨hl2, false, rfl, ⟨(fun h => by cases h), (fun h => absurd ⟨h.ylen, h.cert.signed⟩ hb)⟩⟩
  ·
   have hsg := hb2.1 (by simpa using hb)
   have hn4 := hok.cols
   have hm8 := hok.rows
   obtain ⟨hz1, hz2⟩ := sums_sz hp hok hy hsg.1
   refine vc_skip ?_
   refine vc_keep [1, 2] rfl ?_
   refine vc_sr ?_
   refine vco_run tbOk 2 rfl ?_
   refine vco_call rfl rfl (sums_ok (hp.le hl2) hok (hy.le (ratUp N) hl2) hsg.1 hN) ?_
   rintro v3 H3 ⟨hl3, sv, ns, rfl, hsv, hns⟩
   obtain ⟨n3, d3, b3, rfl⟩ := hns.cells
   obtain ⟨As, cs, xs, rfl, hrs, hxs⟩ := hsv.num
   rw [vals_len]
   refine vco_run tbOk 3 rfl ?_
   refine vco_alloc el72 rfl ?_
   refine vco_run tbOk 1 rfl ?_
   obtain ⟨ti, hti, htz⟩ := sz72; refine vco_bstore (.inl ⟨rfl, rfl⟩) rfl rfl rfl hti htz rfl rfl rfl ?_
   refine vco_k [2, 5, 6] ?_
   refine vc_seq ?_
   refine vc_sr ?_
   refine vco_run tbOk 4 rfl ?_
   refine vco_k [5, 6, 26, 27, 28] ?_
   refine vc_block ?_
   refine vc_loop1 (fun (i : Nat) => p.free.length - i) (fun (i : Nat) => put (put (put (put (put (emp) 5 (.val (.slice As p.free.length cs))) 6 (.box [.int .i64 n3, .int .i64 d3, .pointer b3])) 26 (.val (.slice Af p.free.length cf))) 27 (.val (.int .i64 (p.free.length : Int)))) 28 (.val (.int .i64 (i : Int)))) (fun (i : Nat) H' => Heap.le H3 H' ∧ (∀ k, k < i → p.lp.colsum (fn y) k ≤ 0 ∧ (p.lp.free k = true → 0 ≤ p.lp.colsum (fn y) k)) ∧ i ≤ p.free.length) 0 (⟨.refl _, (fun j h => by omega), Nat.zero_le _⟩) sub_auto ?_
   rintro i H4 ⟨hl4, hal, hi⟩
   have hlH := (hl2.trans hl3).trans hl4
   refine vc_sr ?_
   refine vco_run tbOk 1 rfl ?_
   refine vco_k [5, 6, 26, 27, 28, 29] ?_
   refine vc_seq ?_
   refine vc_cond rfl (fun hb => ?_) (fun hb => ?_)
   ·
    have hin : i < p.free.length := by simpa using hb
    obtain ⟨fb, hfb⟩ : ∃ fb, p.free[i]? = some fb := ⟨_, List.getElem?_eq_getElem hin⟩
    obtain ⟨uf, huf, hufe⟩ := hxF i fb hfb
    cases hufe
    have hfr : p.lp.free i = fb := Prg.free_get hfb
    obtain ⟨n1, d1, b1, hn1, hx1⟩ := hxs i _ (vals_get hin)
    have hzi := hz1 i
    refine vc_skip ?_
    refine vc_keep [5, 6, 26, 27, 28] rfl ?_
    refine vc_seq ?_
    refine vc_block ?_
    refine vc_sr ?_
    refine vco_run tbOk 1 rfl ?_
    refine vco_at tbOk rfl rfl rfl rfl rfl (hrF.le hlH) (by rw [Int.toNat_natCast]; exact huf) (by omega) (by omega) fun _ => ?_
    refine vco_run tbOk 2 rfl ?_
    refine vco_k [5, 6, 7, 8, 26, 27, 28] ?_
    refine vc_sr ?_
    refine vco_run tbOk 2 rfl ?_
    refine vco_at_st (vs := [.int .i64 n1, .int .i64 d1, .pointer b1]) tbOk rfl rfl rfl rfl (hrs.le hl4) rfl (by decide) hx1 (by omega) (by omega) fun _ => ?_
    refine vco_call rfl rfl (ssign_ok (hn1.le hl4) (by omega)) ?_
    rintro v5 H5 ⟨hl5, rfl⟩
    refine vco_run tbOk 1 rfl ?_
    refine vco_k [5, 6, 8, 9, 26, 27, 28] ?_
    by_cases hs : 0 < sgnQ (p.lp.colsum (fn y) i)
    ·
     skip
     refine vc_sr ?_
     refine vco_run tbOk 1 rfl ?_
     refine vco_cmp true rfl rfl (cgt_t hs) ?_
     refine vco_run tbOk 7 rfl ?_
     refine vco_k [5, 6, 26, 27, 28, 46] ?_
     refine vc_cond_t rfl ?_
     refine vc_sr ?_
     refine vco_run tbOk 1 rfl ?_
     refine vco_k [4] ?_
     refine vc_ret ⟨.inr rfl, _, .tmp rfl (.nil), ?_⟩
     exact ⟨hlH.trans hl5, false, rfl, ⟨(fun h => by cases h), (fun h => by have h9 := sgn_le.2 (h.cert.cols i hin).1; omega)⟩⟩
    ·
     have hle0 := sgn_le.1 (show sgnQ (p.lp.colsum (fn y) i) ≤ 0 by omega)
     cases fb
     ·
      skip
      refine vc_sr ?_
      refine vco_run tbOk 1 rfl ?_
      refine vco_cmp false rfl rfl (cgt_f (by omega)) ?_
      refine vco_run tbOk 7 rfl ?_
      refine vco_k [5, 6, 26, 27, 28, 46] ?_
      refine vc_cond_f rfl ?_
      refine vc_skip ?_
      refine vc_keep [5, 6, 26, 27, 28] rfl ?_
      refine vc_region rfl ?_
      refine vco_add rfl rfl ⟨by omega, by omega⟩ ?_
      refine vco_run tbOk 1 rfl ?_
      refine vco_end ?_
      exact ⟨i + 1, by omega, sub_auto, hl4.trans hl5, (fun k hk => by by_cases h9 : k < i; exact hal k h9; (obtain rfl : k = i := by omega); exact ⟨hle0, fun e => by rw [hfr] at e; cases e⟩), by omega⟩
     ·
      skip
      by_cases hs2 : sgnQ (p.lp.colsum (fn y) i) < 0
      ·
       skip
       refine vc_sr ?_
       refine vco_run tbOk 1 rfl ?_
       refine vco_cmp false rfl rfl (cgt_f (by omega)) ?_
       refine vco_run tbOk 4 rfl ?_
       refine vco_cmp true rfl rfl (clt_t hs2) ?_
       refine vco_run tbOk 2 rfl ?_
       refine vco_k [5, 6, 26, 27, 28, 46] ?_
       refine vc_cond_t rfl ?_
       refine vc_sr ?_
       refine vco_run tbOk 1 rfl ?_
       refine vco_k [4] ?_
       refine vc_ret ⟨.inr rfl, _, .tmp rfl (.nil), ?_⟩
       exact ⟨hlH.trans hl5, false, rfl, ⟨(fun h => by cases h), (fun h => by have h9 := sgn_ge.2 ((h.cert.cols i hin).2 hfr); omega)⟩⟩
      ·
       skip
       refine vc_sr ?_
       refine vco_run tbOk 1 rfl ?_
       refine vco_cmp false rfl rfl (cgt_f (by omega)) ?_
       refine vco_run tbOk 4 rfl ?_
       refine vco_cmp false rfl rfl (clt_f (by omega)) ?_
       refine vco_run tbOk 2 rfl ?_
       refine vco_k [5, 6, 26, 27, 28, 46] ?_
       refine vc_cond_f rfl ?_
       refine vc_skip ?_
       refine vc_keep [5, 6, 26, 27, 28] rfl ?_
       refine vc_region rfl ?_
       refine vco_add rfl rfl ⟨by omega, by omega⟩ ?_
       refine vco_run tbOk 1 rfl ?_
       refine vco_end ?_
       exact ⟨i + 1, by omega, sub_auto, hl4.trans hl5, (fun k hk => by by_cases h9 : k < i; exact hal k h9; (obtain rfl : k = i := by omega); exact ⟨hle0, fun _ => sgn_ge.1 (by omega)⟩), by omega⟩
   ·
    have hb : p.free.length ≤ i := by simpa using hb
    refine vc_exit ?_
    refine vc_keep [6] rfl ?_
    refine vc_sr ?_
    refine vco_run tbOk 1 rfl ?_
    refine vco_call rfl rfl (ssign_ok (hns.le hl4) (by omega)) ?_
    rintro v6 H6 ⟨hl6, rfl⟩
    refine vco_run tbOk 2 rfl ?_
    refine vco_k [4] ?_
    refine vc_ret ⟨.inr rfl, _, .tmp rfl (.nil), ?_⟩
    exact ⟨hlH.trans hl6, _, rfl, by simp only [decide_eq_true_eq, gt_iff_lt, sgn_gt]; exact ⟨fun h => ⟨hok, hsg.1, ⟨hsg.2, fun j hj => hal j (Nat.lt_of_lt_of_le hj hb), h⟩⟩, fun h => h.cert.pos⟩⟩
 ·
  skip
  refine vc_sr ?_
  refine vco_run tbOk 1 rfl ?_
  refine vco_call rfl rfl (Valid_no hp hok) ?_
  rintro v1 H1 ⟨e1, rfl⟩
  rw [e1]
  refine vco_run tbOk 7 rfl ?_
  refine vco_k [1, 2, 18] ?_
  refine vc_cond_t rfl ?_
  refine vc_sr ?_
  refine vco_run tbOk 1 rfl ?_
  refine vco_k [4] ?_
  refine vc_ret ⟨.inr rfl, _, .tmp rfl (.nil), ?_⟩
  exact ⟨.refl _, false, rfl, ⟨(fun h => by cases h), (fun h => absurd h.ok hok)⟩⟩
end Go.Eng
/- Walks over package simplex, simplex.go, part 6: CheckOptimal, CheckUnbounded. -/
namespace Go.Eng
open Go.Proofs Num Lp
theorem Feasible_yes {H : Heap} {v xv : Value} {p : Prg} {x : List Rat} {N : Nat} (hp : ProgV N H v p) (hx : SlV (RatP N) 3 H xv x) (hxN : (x.length : Int) ≤ 1099511627776) (hN : N ≤ 1299999998) (hf : PFeas p x) : Fn Tryz.prog 38 #[v, xv] H (fun v H' => Heap.le H H' ∧ v = .bool true) :=
  (Feasible_ok hp hx hxN hN).mono fun v H' ⟨h1, b, h2, h3⟩ => ⟨h1, by rw [h2, h3.2 hf]⟩
theorem Feasible_no {H : Heap} {v xv : Value} {p : Prg} {x : List Rat} {N : Nat} (hp : ProgV N H v p) (hx : SlV (RatP N) 3 H xv x) (hxN : (x.length : Int) ≤ 1099511627776) (hN : N ≤ 1299999998) (hf : ¬ PFeas p x) : Fn Tryz.prog 38 #[v, xv] H (fun v H' => Heap.le H H' ∧ v = .bool false) :=
  (Feasible_ok hp hx hxN hN).mono fun v H' ⟨h1, b, h2, h3⟩ => ⟨h1, by
    cases b with
    | false => exact h2
    | true => exact absurd (h3.1 rfl) hf⟩
theorem CheckOptimal_ok {H : Heap} {v cv xv yv : Value} {p : Prg} {c x y : List Rat} {N : Nat} (hp : ProgV N H v p) (hc : SlV (RatP N) 3 H cv c) (hx : SlV (RatP N) 3 H xv x) (hy : SlV (RatP N) 3 H yv y) (hxN : (x.length : Int) ≤ 1099511627776) (hN : N ≤ 400000000) :
  Fn Tryz.prog 17 #[v, cv, xv, yv] H (fun v H' => Heap.le H H' ∧ ∃ b, v = .bool b ∧ (b = true ↔ ChkOpt p c x y)) := by
 obtain ⟨fv, rv0, rfl, hfv, hrv0⟩ := id hp
 obtain ⟨Af, cf, xf, rfl, hrF, hxF⟩ := hfv.one
 obtain ⟨Ar, cr, xr, rfl, hrR, hxR⟩ := hrv0.row
 obtain ⟨Ay, cy, xy, rfl, hrY, hxY⟩ := hy.rat
 obtain ⟨Ac, cc, xc, rfl, hrC, hxC⟩ := hc.rat
 obtain ⟨Ax, cx, xx, rfl, hrX, hxX⟩ := hx.rat
 refine fn_intro (args := [_, _, _, _]) Tryz.func17 rfl rfl Tryz.ntmps17 rfl rfl fun w0 => ?_
 refine vc_keep [0, 1, 2, 3] rfl ?_
 refine vc_sr ?_
 refine vco_box rfl rfl ?_
 refine vco_run tbOk 1 rfl ?_
 refine vco_k [1, 2, 3, 4] ?_
 refine vc_seq ?_
 by_cases hf : PFeas p x
 ·
  skip
  by_cases hcl : c.length = p.free.length
  ·
   skip
   refine vc_sr ?_
   refine vco_run tbOk 2 rfl ?_
   refine vco_call rfl rfl (Feasible_yes hp hx hxN (by omega) hf) ?_
   rintro v1 H1 ⟨hl1, rfl⟩
   refine vco_run tbOk 7 rfl ?_
   refine vco_cmp false rfl rfl (cne_f (by omega)) ?_
   refine vco_run tbOk 4 rfl ?_
   refine vco_call rfl rfl (signed_ok (hp.le hl1) hf.ok (hy.le (ratUp N) hl1) (by omega)) ?_
   rintro v2 H2 ⟨hl2, b2, rfl, hb2⟩
   refine vco_run tbOk 2 rfl ?_
   refine vco_k [1, 2, 3, 4, 31] ?_
   refine vc_cond rfl (fun hb => ?_) (fun hb => ?_)
   ·
    have hb : ¬ (y.length = p.rows.length ∧ p.lp.Signed (fn y)) := fun h => by have h9 := hb2.2 h; rw [h9] at hb; simp at hb
    refine vc_sr ?_
    refine vco_run tbOk 1 rfl ?_
    refine vco_k [8] ?_
    refine vc_ret ⟨.inr rfl, _, .tmp rfl (.nil), ?_⟩
    exact ⟨hl1.trans hl2, false, rfl, ⟨(fun h => by cases h), (fun h => absurd ⟨h.ylen, h.cert.signed⟩ hb)⟩⟩
   ·
    have hsg := hb2.1 (by simpa using hb)
    have hok := hf.ok
    have hn4 := hok.cols
    have hm8 := hok.rows
    obtain ⟨hz1, hz2⟩ := sums_sz hp hok hy hsg.1
    have hl12 := hl1.trans hl2
    refine vc_skip ?_
    refine vc_keep [1, 2, 3, 4] rfl ?_
    refine vc_sr ?_
    refine vco_run tbOk 2 rfl ?_
    refine vco_call rfl rfl (sums_ok (hp.le hl12) hok (hy.le (ratUp N) hl12) hsg.1 (by omega)) ?_
    rintro v3 H3 ⟨hl3, sv, ns, rfl, hsv, hns⟩
    obtain ⟨n3, d3, b3, rfl⟩ := hns.cells
    obtain ⟨As, cs, xs, rfl, hrs, hxs⟩ := hsv.num
    rw [vals_len]
    refine vco_run tbOk 3 rfl ?_
    refine vco_alloc el72 rfl ?_
    refine vco_run tbOk 1 rfl ?_
    obtain ⟨ti, hti, htz⟩ := sz72; refine vco_bstore (.inl ⟨rfl, rfl⟩) rfl rfl rfl hti htz rfl rfl rfl ?_
    refine vco_k [1, 2, 4, 9, 10] ?_
    refine vc_seq ?_
    refine vc_sr ?_
    refine vco_run tbOk 4 rfl ?_
    refine vco_k [1, 2, 9, 10, 39, 40, 41] ?_
    refine vc_block ?_
    refine vc_loop1 (fun (i : Nat) => p.free.length - i) (fun (i : Nat) => put (put (put (put (put (put (put (emp) 1 (.val (.slice Ac c.length cc))) 2 (.val (.slice Ax x.length cx))) 9 (.val (.slice As p.free.length cs))) 10 (.box [.int .i64 n3, .int .i64 d3, .pointer b3])) 39 (.val (.slice Af p.free.length cf))) 40 (.val (.int .i64 (p.free.length : Int)))) 41 (.val (.int .i64 (i : Int)))) (fun (i : Nat) H' => Heap.le H3 H' ∧ (∀ k, k < i → 0 ≤ fn c k - p.lp.colsum (fn y) k ∧ (p.lp.free k = true → fn c k - p.lp.colsum (fn y) k ≤ 0)) ∧ i ≤ p.free.length) 0 (⟨.refl _, (fun j h => by omega), Nat.zero_le _⟩) sub_auto ?_
    rintro i H4 ⟨hl4, hal, hi⟩
    have hlH := (hl12.trans hl3).trans hl4
    refine vc_sr ?_
    refine vco_run tbOk 1 rfl ?_
    refine vco_k [1, 2, 9, 10, 39, 40, 41, 42] ?_
    refine vc_seq ?_
    refine vc_cond rfl (fun hb => ?_) (fun hb => ?_)
    ·
     have hin : i < p.free.length := by simpa using hb
     obtain ⟨fb, hfb⟩ : ∃ fb, p.free[i]? = some fb := ⟨_, List.getElem?_eq_getElem hin⟩
     obtain ⟨uf, huf, hufe⟩ := hxF i fb hfb
     cases hufe
     have hfr : p.lp.free i = fb := Prg.free_get hfb
     obtain ⟨n1, d1, b1, hn1, hx1⟩ := hxs i _ (vals_get hin)
     have hzi := hz1 i
     obtain ⟨q, hqk⟩ : ∃ q, c[i]? = some q := ⟨_, List.getElem?_eq_getElem (by omega)⟩
     obtain ⟨g, B1, k1, e1, B2, k2, e2, hraw, hqx⟩ := hxC i q hqk
     have hfq : fn c i = q := fn_get hqk
     have hszq := hc.rsize q (List.mem_of_getElem? hqk)
     refine vc_skip ?_
     refine vc_keep [1, 2, 9, 10, 39, 40, 41] rfl ?_
     refine vc_seq ?_
     refine vc_block ?_
     refine vc_sr ?_
     refine vco_run tbOk 1 rfl ?_
     refine vco_at tbOk rfl rfl rfl rfl rfl (hrF.le hlH) (by rw [Int.toNat_natCast]; exact huf) (by omega) (by omega) fun _ => ?_
     refine vco_run tbOk 2 rfl ?_
     refine vco_k [1, 2, 9, 10, 11, 12, 39, 40, 41] ?_
     refine vc_sd .drawB [0, 1, 2, 3, 5, 6, 7, 8, 4, 9, 10, 11] follows (by kernel_rfl) ?_
     refine vco_run tbOk 2 rfl ?_
     refine vco_at_st (vs := [.bool g, .slice B1 k1 e1, .slice B2 k2 e2]) tbOk rfl rfl rfl rfl (hrC.le hlH) rfl (by decide) hqx (by omega) (by omega) fun _ => ?_
     refine vco_run tbOk 2 rfl ?_
     refine vco_at_st (vs := [.int .i64 n1, .int .i64 d1, .pointer b1]) tbOk rfl rfl rfl rfl (hrs.le hl4) rfl (by decide) hx1 (by omega) (by omega) fun _ => ?_
     refine vco_callM rfl rfl (sload_ok (hraw.le hlH) (by omega)) (fun _ _ h => by first | exact h.le | exact h.1) ?_
     rintro _ H5 ⟨hl5, vs5, rfl, hn5⟩
     obtain ⟨n5, d5, b5, rfl⟩ := hn5.cells
     refine vco_callM rfl rfl (ssub_ok (N := 800 * (2 * (N + 2) + 2) + 1) hn5 (hn1.le (hl4.trans hl5)) (by omega) hzi (by omega)) (fun _ _ h => by first | exact h.le | exact h.1) ?_
     rintro _ H6 ⟨hl6, vs6, rfl, hn6⟩
     obtain ⟨n6, d6, b6, rfl⟩ := hn6.cells
     have hszs := szQ_sub q (p.lp.colsum (fn y) i)
     rw [← hfq] at hn6 hszs hszq
     refine vco_callM rfl rfl (ssign_ok hn6 (by omega)) (fun _ _ h => by first | exact h.le | exact h.1) ?_
     rintro v7 H7 ⟨hl7, rfl⟩
     refine vco_run tbOk 1 rfl ?_
     refine vco_k [1, 2, 9, 10, 12, 13, 39, 40, 41] ?_
     by_cases hs : sgnQ (fn c i - p.lp.colsum (fn y) i) < 0
     ·
      skip
      refine vc_sr ?_
      refine vco_run tbOk 1 rfl ?_
      refine vco_cmp true rfl rfl (clt_t hs) ?_
      refine vco_run tbOk 7 rfl ?_
      refine vco_k [1, 2, 9, 10, 39, 40, 41, 65] ?_
      refine vc_cond_t rfl ?_
      refine vc_sr ?_
      refine vco_run tbOk 1 rfl ?_
      refine vco_k [8] ?_
      refine vc_ret ⟨.inr rfl, _, .tmp rfl (.nil), ?_⟩
      exact ⟨((hlH.trans hl5).trans hl6).trans hl7, false, rfl, ⟨(fun h => by cases h), (fun h => by have h9 := sgn_ge.2 (h.cert.cols i hin).1; omega)⟩⟩
     ·
      have hge0 := sgn_ge.1 (show 0 ≤ sgnQ (fn c i - p.lp.colsum (fn y) i) by omega)
      cases fb
      ·
       skip
       refine vc_sr ?_
       refine vco_run tbOk 1 rfl ?_
       refine vco_cmp false rfl rfl (clt_f (by omega)) ?_
       refine vco_run tbOk 7 rfl ?_
       refine vco_k [1, 2, 9, 10, 39, 40, 41, 65] ?_
       refine vc_cond_f rfl ?_
       refine vc_skip ?_
       refine vc_keep [1, 2, 9, 10, 39, 40, 41] rfl ?_
       refine vc_region rfl ?_
       refine vco_add rfl rfl ⟨by omega, by omega⟩ ?_
       refine vco_run tbOk 1 rfl ?_
       refine vco_end ?_
       exact ⟨i + 1, by omega, sub_auto, ((hl4.trans hl5).trans hl6).trans hl7, (fun k hk => by by_cases h9 : k < i; exact hal k h9; (obtain rfl : k = i := by omega); exact ⟨hge0, fun e => by rw [hfr] at e; cases e⟩), by omega⟩
      ·
       skip
       by_cases hs2 : 0 < sgnQ (fn c i - p.lp.colsum (fn y) i)
       ·
        skip
        refine vc_sr ?_
        refine vco_run tbOk 1 rfl ?_
        refine vco_cmp false rfl rfl (clt_f (by omega)) ?_
        refine vco_run tbOk 4 rfl ?_
        refine vco_cmp true rfl rfl (cgt_t hs2) ?_
        refine vco_run tbOk 2 rfl ?_
        refine vco_k [1, 2, 9, 10, 39, 40, 41, 65] ?_
        refine vc_cond_t rfl ?_
        refine vc_sr ?_
        refine vco_run tbOk 1 rfl ?_
        refine vco_k [8] ?_
        refine vc_ret ⟨.inr rfl, _, .tmp rfl (.nil), ?_⟩
        exact ⟨((hlH.trans hl5).trans hl6).trans hl7, false, rfl, ⟨(fun h => by cases h), (fun h => by have h9 := sgn_le.2 ((h.cert.cols i hin).2 hfr); omega)⟩⟩
       ·
        skip
        refine vc_sr ?_
        refine vco_run tbOk 1 rfl ?_
        refine vco_cmp false rfl rfl (clt_f (by omega)) ?_
        refine vco_run tbOk 4 rfl ?_
        refine vco_cmp false rfl rfl (cgt_f (by omega)) ?_
        refine vco_run tbOk 2 rfl ?_
        refine vco_k [1, 2, 9, 10, 39, 40, 41, 65] ?_
        refine vc_cond_f rfl ?_
        refine vc_skip ?_
        refine vc_keep [1, 2, 9, 10, 39, 40, 41] rfl ?_
        refine vc_region rfl ?_
        refine vco_add rfl rfl ⟨by omega, by omega⟩ ?_
        refine vco_run tbOk 1 rfl ?_
        refine vco_end ?_
        exact ⟨i + 1, by omega, sub_auto, ((hl4.trans hl5).trans hl6).trans hl7, (fun k hk => by by_cases h9 : k < i; exact hal k h9; (obtain rfl : k = i := by omega); exact ⟨hge0, fun _ => sgn_le.1 (by omega)⟩), by omega⟩
    ·
     have hb : p.free.length ≤ i := by simpa using hb
     have hxl := hf.len
     refine vc_exit ?_
     refine vc_keep [1, 2, 10] rfl ?_
     refine vc_sd .drawB [0, 1, 3, 2, 4, 5, 6, 7, 8, 9] follows (by kernel_rfl) ?_
     refine vco_run tbOk 3 rfl ?_
     refine vco_callM rfl rfl (svector_ok (hc.le (ratUp N) hlH) (by omega) (by omega)) (fun _ _ h => by first | exact h.le | exact h.1) ?_
     rintro v8 H8 ⟨hl8, hs8⟩
     refine vco_callM rfl rfl (svector_ok (hx.le (ratUp N) (hlH.trans hl8)) (by omega) (by omega)) (fun _ _ h => by first | exact h.le | exact h.1) ?_
     rintro v9 H9 ⟨hl9, hs9⟩
     refine vco_callM rfl rfl (sdot_ok (s := N + 2) (hs8.le numUp hl9) hs9 (by omega) hc.rsize hx.rsize (by rw [hcl]; have h9 : ((p.free.length : Int) + 2) * (2 * ((N + 2 : Nat) : Int) + 2) ≤ 402 * (2 * ((N + 2 : Nat) : Int) + 2) := Int.mul_le_mul_of_nonneg_right (by omega) (by omega); omega)) (fun _ _ h => by first | exact h.le | exact h.1) ?_
     rintro _ H10 ⟨hl10, vs10, rfl, hn10⟩
     obtain ⟨n10, d10, b10, rfl⟩ := hn10.cells
     have hsz10 := dot_sz (M := N + 2) c.length (fn c) (fn x) (fun j hj => hc.rsize _ (fn_mem hj)) (fun j hj => hx.rsize _ (fn_mem (by omega)))
     have hsz11 : c.length * (2 * (N + 2) + 2) ≤ 400 * (2 * (N + 2) + 2) := Nat.mul_le_mul_right _ (by omega)
     refine vco_callM rfl rfl (ssub_ok (N := 800 * (2 * (N + 2) + 2) + 1) (hns.le (((hl4.trans hl8).trans hl9).trans hl10)) hn10 hz2 (by omega) (by omega)) (fun _ _ h => by first | exact h.le | exact h.1) ?_
     rintro _ H11 ⟨hl11, vs11, rfl, hn11⟩
     obtain ⟨n11, d11, b11, rfl⟩ := hn11.cells
     have hszs := szQ_sub (p.lp.bndsum (fn y)) (dotN c.length (fn c) (fn x))
     refine vco_callM rfl rfl (ssign_ok hn11 (by omega)) (fun _ _ h => by first | exact h.le | exact h.1) ?_
     rintro v12 H12 ⟨hl12b, rfl⟩
     refine vco_run tbOk 2 rfl ?_
     refine vco_k [8] ?_
     refine vc_ret ⟨.inr rfl, _, .tmp rfl (.nil), ?_⟩
     exact ⟨((((hlH.trans hl8).trans hl9).trans hl10).trans hl11).trans hl12b, _, rfl, by simp only [beq_iff_eq, sgn_eq]; rw [hcl]; exact ⟨fun h => ⟨hf, hcl, hsg.1, ⟨hf.meets, hsg.2, fun j hj => hal j (Nat.lt_of_lt_of_le hj hb), (show p.lp.bndsum (fn y) = dotN p.free.length (fn c) (fn x) by grind)⟩⟩, fun h => by have h9 : p.lp.bndsum (fn y) = dotN p.free.length (fn c) (fn x) := h.cert.eq; grind⟩⟩
  ·
   skip
   refine vc_sr ?_
   refine vco_run tbOk 2 rfl ?_
   refine vco_call rfl rfl (Feasible_yes hp hx hxN (by omega) hf) ?_
   rintro v1 H1 ⟨hl1, rfl⟩
   refine vco_run tbOk 7 rfl ?_
   refine vco_cmp true rfl rfl (cne_t (by omega)) ?_
   refine vco_run tbOk 7 rfl ?_
   refine vco_k [1, 2, 3, 4, 31] ?_
   refine vc_cond_t rfl ?_
   refine vc_sr ?_
   refine vco_run tbOk 1 rfl ?_
   refine vco_k [8] ?_
   refine vc_ret ⟨.inr rfl, _, .tmp rfl (.nil), ?_⟩
   exact ⟨hl1, false, rfl, ⟨(fun h => by cases h), (fun h => absurd h.clen hcl)⟩⟩
 ·
  skip
  refine vc_sr ?_
  refine vco_run tbOk 2 rfl ?_
  refine vco_call rfl rfl (Feasible_no hp hx hxN (by omega) hf) ?_
  rintro v1 H1 ⟨hl1, rfl⟩
  refine vco_run tbOk 15 rfl ?_
  refine vco_k [1, 2, 3, 4, 31] ?_
  refine vc_cond_t rfl ?_
  refine vc_sr ?_
  refine vco_run tbOk 1 rfl ?_
  refine vco_k [8] ?_
  refine vc_ret ⟨.inr rfl, _, .tmp rfl (.nil), ?_⟩
  exact ⟨hl1, false, rfl, ⟨(fun h => by cases h), (fun h => absurd h.feas hf)⟩⟩
end Go.Eng
/- Walks over package simplex, simplex.go, part 7: CheckUnbounded. -/
namespace Go.Eng
open Go.Proofs Num Lp
theorem Fn.yes {P : Program} {f : FuncId} {args : Array Value} {H : Heap} {Q : Prop} (h : Fn P f args H (fun v H' => Heap.le H H' ∧ ∃ b, v = .bool b ∧ (b = true ↔ Q))) (hq : Q) : Fn P f args H (fun v H' => Heap.le H H' ∧ v = .bool true) :=
  h.mono fun v H' ⟨h1, b, h2, h3⟩ => ⟨h1, by rw [h2, h3.2 hq]⟩
theorem Fn.no {P : Program} {f : FuncId} {args : Array Value} {H : Heap} {Q : Prop} (h : Fn P f args H (fun v H' => Heap.le H H' ∧ ∃ b, v = .bool b ∧ (b = true ↔ Q))) (hq : ¬ Q) : Fn P f args H (fun v H' => Heap.le H H' ∧ v = .bool false) :=
  h.mono fun v H' ⟨h1, b, h2, h3⟩ => ⟨h1, by
    cases b with
    | false => exact h2
    | true => exact absurd (h3.1 rfl) hq⟩
theorem CheckUnbounded_ok {H : Heap} {v cv xv rv : Value} {p : Prg} {c x r : List Rat} {N : Nat} (hp : ProgV N H v p) (hc : SlV (RatP N) 3 H cv c) (hx : SlV (RatP N) 3 H xv x) (hr : SlV (RatP N) 3 H rv r) (hxN : (x.length : Int) ≤ 1099511627776) (hN : N ≤ 400000000) :
  Fn Tryz.prog 21 #[v, cv, xv, rv] H (fun v H' => Heap.le H H' ∧ ∃ b, v = .bool b ∧ (b = true ↔ ChkUnb p c x r)) := by
 obtain ⟨fv, rv0, rfl, hfv, hrv0⟩ := id hp
 obtain ⟨Af, cf, xf, rfl, hrF, hxF⟩ := hfv.one
 obtain ⟨Ar, cr, xr, rfl, hrR, hxR⟩ := hrv0.row
 obtain ⟨Ay, cy, xy, rfl, hrY, hxY⟩ := hr.rat
 obtain ⟨Ac, cc, xc, rfl, hrC, hxC⟩ := hc.rat
 obtain ⟨Ax, cx, xx, rfl, hrX, hxX⟩ := hx.rat
 refine fn_intro (args := [_, _, _, _]) Tryz.func21 rfl rfl Tryz.ntmps21 rfl rfl fun w0 => ?_
 refine vc_keep [0, 1, 2, 3] rfl ?_
 refine vc_sr ?_
 refine vco_box rfl rfl ?_
 refine vco_run tbOk 1 rfl ?_
 refine vco_k [1, 2, 3, 4] ?_
 refine vc_seq ?_
 by_cases hf : PFeas p x
 ·
  skip
  by_cases hcl : c.length = p.free.length
  ·
   skip
   by_cases hrl : r.length = p.free.length
   ·
    skip
    refine vc_sr ?_
    refine vco_run tbOk 2 rfl ?_
    refine vco_call rfl rfl (Feasible_yes hp hx hxN (by omega) hf) ?_
    rintro v1 H1 ⟨hl1, rfl⟩
    refine vco_run tbOk 7 rfl ?_
    refine vco_cmp false rfl rfl (cne_f (by omega)) ?_
    refine vco_run tbOk 7 rfl ?_
    refine vco_cmp false rfl rfl (cne_f (by omega)) ?_
    refine vco_run tbOk 1 rfl ?_
    refine vco_k [1, 3, 4, 29] ?_
    refine vc_cond_f rfl ?_
    refine vc_skip ?_
    refine vc_keep [1, 3, 4] rfl ?_
    refine vc_sr ?_
    refine vco_run tbOk 1 rfl ?_
    refine vco_call rfl rfl (svector_ok (hr.le (ratUp N) hl1) (by omega) (by have h9 := hf.ok.cols; omega)) ?_
    rintro v3 H3 ⟨hl3, hs3⟩
    have hl13 := hl1.trans hl3
    have hn4 := hf.ok.cols
    refine vco_run tbOk 1 rfl ?_
    refine vco_k [1, 4, 9] ?_
    by_cases hm : p.lp.Meets 0 (fn r)
    ·
     skip
     refine vc_sd .drawB [0, 1, 2, 3, 4, 5, 7, 6, 8, 9, 10, 11, 12] follows (by kernel_rfl) ?_
     refine vco_run tbOk 2 rfl ?_
     refine vco_callM rfl rfl (swhole_ok) (fun _ _ h => by first | exact h.le | exact h.1) ?_
     rintro v4 H4 ⟨e4, rfl⟩
     rw [e4]
     refine vco_callM rfl rfl (Fn.yes (satisfies_ok (t := 0) (M := N + 2) (hp.le hl13) hf.ok hs3 hrl (numV_int H3 (n := 0) (by decide) (by decide)) (by decide) hr.rsize (by omega) (by omega)) hm) (fun _ _ h => by first | exact h.le | exact h.1) ?_
     rintro v5 H5 ⟨hl5, rfl⟩
     refine vco_run tbOk 3 rfl ?_
     refine vco_callM rfl rfl (svector_ok (hc.le (ratUp N) (hl13.trans hl5)) (by omega) (by omega)) (fun _ _ h => by first | exact h.le | exact h.1) ?_
     rintro v6 H6 ⟨hl6, hs6⟩
     refine vco_callM rfl rfl (sdot_ok (s := N + 2) hs6 (hs3.le numUp (hl5.trans hl6)) (by omega) hc.rsize hr.rsize (by rw [hcl]; have h9 : ((p.free.length : Int) + 2) * (2 * ((N + 2 : Nat) : Int) + 2) ≤ 402 * (2 * ((N + 2 : Nat) : Int) + 2) := Int.mul_le_mul_of_nonneg_right (by omega) (by omega); omega)) (fun _ _ h => by first | exact h.le | exact h.1) ?_
     rintro _ H7 ⟨hl7, vs7, rfl, hn7⟩
     obtain ⟨n7, d7, b7, rfl⟩ := hn7.cells
     have hsz7 := dot_sz (M := N + 2) c.length (fn c) (fn r) (fun j hj => hc.rsize _ (fn_mem hj)) (fun j hj => hr.rsize _ (fn_mem (by omega)))
     have hsz8 : c.length * (2 * (N + 2) + 2) ≤ 400 * (2 * (N + 2) + 2) := Nat.mul_le_mul_right _ (by omega)
     refine vco_callM rfl rfl (ssign_ok hn7 (by omega)) (fun _ _ h => by first | exact h.le | exact h.1) ?_
     rintro v8 H8 ⟨hl8, rfl⟩
     refine vco_run tbOk 3 rfl ?_
     refine vco_k [8] ?_
     refine vc_ret ⟨.inr rfl, _, .tmp rfl (.nil), ?_⟩
     exact ⟨(((hl13.trans hl5).trans hl6).trans hl7).trans hl8, _, rfl, by simp only [decide_eq_true_eq, sgn_lt]; rw [hcl]; exact ⟨fun h => ⟨hf, hcl, hrl, ⟨hf.meets, hm, h⟩⟩, fun h => h.cert.neg⟩⟩
    ·
     skip
     refine vc_sd .drawB [0, 1, 2, 3, 4, 5, 7, 6, 8, 9, 10, 11, 12] follows (by kernel_rfl) ?_
     refine vco_run tbOk 2 rfl ?_
     refine vco_callM rfl rfl (swhole_ok) (fun _ _ h => by first | exact h.le | exact h.1) ?_
     rintro v4 H4 ⟨e4, rfl⟩
     rw [e4]
     refine vco_callM rfl rfl (Fn.no (satisfies_ok (t := 0) (M := N + 2) (hp.le hl13) hf.ok hs3 hrl (numV_int H3 (n := 0) (by decide) (by decide)) (by decide) hr.rsize (by omega) (by omega)) hm) (fun _ _ h => by first | exact h.le | exact h.1) ?_
     rintro v5 H5 ⟨hl5, rfl⟩
     refine vco_run tbOk 9 rfl ?_
     refine vco_k [8] ?_
     refine vc_ret ⟨.inr rfl, _, .tmp rfl (.nil), ?_⟩
     exact ⟨hl13.trans hl5, false, rfl, ⟨(fun h => by cases h), (fun h => absurd h.cert.ray hm)⟩⟩
   ·
    skip
    refine vc_sr ?_
    refine vco_run tbOk 2 rfl ?_
    refine vco_call rfl rfl (Feasible_yes hp hx hxN (by omega) hf) ?_
    rintro v1 H1 ⟨hl1, rfl⟩
    refine vco_run tbOk 7 rfl ?_
    refine vco_cmp false rfl rfl (cne_f (by omega)) ?_
    refine vco_run tbOk 7 rfl ?_
    refine vco_cmp true rfl rfl (cne_t (by omega)) ?_
    refine vco_run tbOk 1 rfl ?_
    refine vco_k [1, 3, 4, 29] ?_
    refine vc_cond_t rfl ?_
    refine vc_sr ?_
    refine vco_run tbOk 1 rfl ?_
    refine vco_k [8] ?_
    refine vc_ret ⟨.inr rfl, _, .tmp rfl (.nil), ?_⟩
    exact ⟨hl1, false, rfl, ⟨(fun h => by cases h), (fun h => absurd h.rlen hrl)⟩⟩
  ·
   skip
   refine vc_sr ?_
   refine vco_run tbOk 2 rfl ?_
   refine vco_call rfl rfl (Feasible_yes hp hx hxN (by omega) hf) ?_
   rintro v1 H1 ⟨hl1, rfl⟩
   refine vco_run tbOk 7 rfl ?_
   refine vco_cmp true rfl rfl (cne_t (by omega)) ?_
   refine vco_run tbOk 9 rfl ?_
   refine vco_k [1, 3, 4, 29] ?_
   refine vc_cond_t rfl ?_
   refine vc_sr ?_
   refine vco_run tbOk 1 rfl ?_
   refine vco_k [8] ?_
   refine vc_ret ⟨.inr rfl, _, .tmp rfl (.nil), ?_⟩
   exact ⟨hl1, false, rfl, ⟨(fun h => by cases h), (fun h => absurd h.clen hcl)⟩⟩
 ·
  skip
  refine vc_sr ?_
  refine vco_run tbOk 2 rfl ?_
  refine vco_call rfl rfl (Feasible_no hp hx hxN (by omega) hf) ?_
  rintro v1 H1 ⟨hl1, rfl⟩
  refine vco_run tbOk 17 rfl ?_
  refine vco_k [1, 3, 4, 29] ?_
  refine vc_cond_t rfl ?_
  refine vc_sr ?_
  refine vco_run tbOk 1 rfl ?_
  refine vco_k [8] ?_
  refine vc_ret ⟨.inr rfl, _, .tmp rfl (.nil), ?_⟩
  exact ⟨hl1, false, rfl, ⟨(fun h => by cases h), (fun h => absurd h.feas hf)⟩⟩
end Go.Eng
