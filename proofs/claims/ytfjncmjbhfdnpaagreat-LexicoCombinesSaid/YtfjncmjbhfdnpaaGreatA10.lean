/- Part 10 of the proof: Smp1, Mz3, Min, Keep1, Eng14, Keep2, Gen, Grw, Br1. -/
import Derived.Test.YtfjncmjbhfdnpaaGreatA09
import Derived.Deep.Slices
import Derived.Deep.Strs
import Derived.Carry
import Derived.Below
set_option linter.unusedVariables false
/- Walks over package simplex, simplex.go, part 1: Valid. -/
namespace Go.Eng
open Go.Proofs Num Lp
theorem Valid_ok {H : Heap} {v : Value} {p : Prg} {N : Nat} (hp : ProgV N H v p) :
  Fn Tryz.prog 47 #[v] H (fun v H' => H' = H ∧ ∃ b, v = .bool b ∧ (b = true ↔ p.Ok)) := by
 obtain ⟨fv, rv0, rfl, hfv, hrv0⟩ := hp
 obtain ⟨Af, cf, xf, rfl, hrF, hxF⟩ := hfv.one
 obtain ⟨Ar, cr, xr, rfl, hrR, hxR⟩ := hrv0.row; refine fn_intro (args := [_]) Tryz.func47 rfl rfl Tryz.ntmps47 rfl rfl fun w0 => ?_; refine vc_keep [0] rfl ?_; refine vc_sr ?_; refine vco_box rfl rfl ?_; refine vr 1 ?_; refine vco_k [1] ?_; refine vc_seq ?_
 by_cases h1 : 400 < (p.free.length : Int)
 ·
  skip
  refine vc_sr ?_; refine vr 3 ?_; refine vco_cmp true rfl rfl (cgt_t h1) ?_; refine vr 6 ?_; refine vco_k [1, 14] ?_; refine vc_cond_t rfl ?_; refine vc_sr ?_; refine vr 1 ?_; refine vco_k [2] ?_; refine vc_ret ⟨.inr rfl, _, .tmp rfl (.nil), ?_⟩; exact ⟨rfl, false, rfl, ⟨(fun h => by cases h), (fun h => by have h8 := h.cols; have h9 := h.rows; omega)⟩⟩
 ·
  skip
  by_cases h2 : 800 < (p.rows.length : Int)
  ·
   skip
   refine vc_sr ?_; refine vr 3 ?_; refine vco_cmp false rfl rfl (cgt_f (by omega)) ?_; refine vr 4 ?_; refine vco_cmp true rfl rfl (cgt_t h2) ?_; refine vr 1 ?_; refine vco_k [1, 14] ?_; refine vc_cond_t rfl ?_; refine vc_sr ?_; refine vr 1 ?_; refine vco_k [2] ?_; refine vc_ret ⟨.inr rfl, _, .tmp rfl (.nil), ?_⟩; exact ⟨rfl, false, rfl, ⟨(fun h => by cases h), (fun h => by have h8 := h.cols; have h9 := h.rows; omega)⟩⟩
  ·
   skip
   refine vc_sr ?_; refine vr 3 ?_; refine vco_cmp false rfl rfl (cgt_f (by omega)) ?_; refine vr 4 ?_; refine vco_cmp false rfl rfl (cgt_f (by omega)) ?_; refine vr 1 ?_; refine vco_k [1, 14] ?_; refine vc_cond_f rfl ?_; refine vc_skip ?_; refine vc_keep [1] rfl ?_; refine vc_seq ?_; refine vc_sr ?_; refine vr 4 ?_; refine vco_k [1, 16, 17, 18] ?_; refine vc_block ?_; refine vc_loop1 (fun (i : Nat) => p.rows.length - i) (fun (i : Nat) => put (put (put (put (emp) 1 (.box [.slice Af p.free.length cf, .slice Ar p.rows.length cr])) 16 (.val (.slice Ar p.rows.length cr))) 17 (.val (.int .i64 (p.rows.length : Int)))) 18 (.val (.int .i64 (i : Int)))) (fun (i : Nat) H' => H' = H ∧ (∀ (k : Nat) (r : List Rat × Int × Rat), k < i → p.rows[k]? = some r → RowOk p.free.length r) ∧ i ≤ p.rows.length) 0 (⟨rfl, (fun k r h => by omega), Nat.zero_le _⟩) sub_auto ?_; rintro i H1 ⟨e1, hal, hi⟩; rw [e1]; refine vc_sr ?_; refine vr 1 ?_; refine vco_k [1, 16, 17, 18, 19] ?_; refine vc_seq ?_; refine vc_cond rfl (fun hb => ?_) (fun hb => ?_)
   ·
    have him : i < p.rows.length := by simpa using hb
    obtain ⟨r, hr⟩ : ∃ r, p.rows[i]? = some r := ⟨_, List.getElem?_eq_getElem him⟩; obtain ⟨A0, c0, f, A1, m1, c1, A2, m2, c2, hrp, hrx⟩ := hxR i r hr; refine vc_skip ?_; refine vc_keep [1, 16, 17, 18] rfl ?_; refine vc_seq ?_; refine vc_block ?_; refine vc_sr ?_; refine vco_at_st (vs := [.slice A0 r.1.length c0, .int .i64 r.2.1, .bool f, .slice A1 m1 c1, .slice A2 m2 c2]) tbOk rfl rfl rfl rfl hrR rfl (by decide) hrx (by omega) (by omega) fun _ => ?_; refine vco_alloc el78 rfl ?_; obtain ⟨ti, hti, htz⟩ := sz78; refine vco_bstore (.inl ⟨rfl, rfl⟩) rfl rfl rfl hti htz rfl rfl rfl ?_; refine vco_k [1, 4, 16, 17, 18] ?_; refine vc_seq ?_; refine vc_sr ?_; refine vr 7 ?_; refine vco_k [1, 4, 16, 17, 18, 28] ?_; refine vc_cond rfl (fun hb => ?_) (fun hb => ?_)
    ·
     have hb2 : ¬ r.1.length = p.free.length := by simpa [Int.natCast_inj] using hb
     refine vc_sr ?_; refine vr 1 ?_; refine vco_k [2] ?_; refine vc_ret ⟨.inr rfl, _, .tmp rfl (.nil), ?_⟩; exact ⟨rfl, false, rfl, ⟨(fun h => by cases h), fun h => absurd (h.row i r hr).1 hb2⟩⟩
    ·
     have hb2 : r.1.length = p.free.length := by simpa [Int.natCast_inj] using hb
     refine vc_skip ?_; refine vc_keep [1, 4, 16, 17, 18] rfl ?_
     by_cases h1 : r.2.1 = 1
     ·
      skip
      refine vc_sr ?_; refine vr 2 ?_; refine vco_cmp false rfl rfl (cne_f h1) ?_; refine vr 10 ?_; refine vco_k [1, 16, 17, 18, 41] ?_; refine vc_cond_f rfl ?_; refine vc_skip ?_; refine vc_keep [1, 16, 17, 18] rfl ?_; refine vc_region rfl ?_; refine vco_add rfl rfl ⟨by omega, by omega⟩ ?_; refine vr 1 ?_; refine vco_end ?_; exact ⟨i + 1, by omega, sub_auto, rfl, (fun k r9 hk hr9 => by by_cases h9 : k < i; exact hal k r9 h9 hr9; (obtain rfl : k = i := by omega); rw [hr] at hr9; cases hr9; exact ⟨hb2, .inl h1⟩), by omega⟩
     ·
      skip
      by_cases h2 : r.2.1 = 2
      ·
       skip
       refine vc_sr ?_; refine vr 2 ?_; refine vco_cmp true rfl rfl (cne_t h1) ?_; refine vr 3 ?_; refine vco_cmp false rfl rfl (cne_f h2) ?_; refine vr 6 ?_; refine vco_k [1, 16, 17, 18, 41] ?_; refine vc_cond_f rfl ?_; refine vc_skip ?_; refine vc_keep [1, 16, 17, 18] rfl ?_; refine vc_region rfl ?_; refine vco_add rfl rfl ⟨by omega, by omega⟩ ?_; refine vr 1 ?_; refine vco_end ?_; exact ⟨i + 1, by omega, sub_auto, rfl, (fun k r9 hk hr9 => by by_cases h9 : k < i; exact hal k r9 h9 hr9; (obtain rfl : k = i := by omega); rw [hr] at hr9; cases hr9; exact ⟨hb2, .inr (.inl h2)⟩), by omega⟩
      ·
       skip
       by_cases h3 : r.2.1 = 3
       ·
        skip
        refine vc_sr ?_; refine vr 2 ?_; refine vco_cmp true rfl rfl (cne_t h1) ?_; refine vr 3 ?_; refine vco_cmp true rfl rfl (cne_t h2) ?_; refine vr 4 ?_; refine vco_cmp false rfl rfl (cne_f h3) ?_; refine vr 1 ?_; refine vco_k [1, 16, 17, 18, 41] ?_; refine vc_cond_f rfl ?_; refine vc_skip ?_; refine vc_keep [1, 16, 17, 18] rfl ?_; refine vc_region rfl ?_; refine vco_add rfl rfl ⟨by omega, by omega⟩ ?_; refine vr 1 ?_; refine vco_end ?_; exact ⟨i + 1, by omega, sub_auto, rfl, (fun k r9 hk hr9 => by by_cases h9 : k < i; exact hal k r9 h9 hr9; (obtain rfl : k = i := by omega); rw [hr] at hr9; cases hr9; exact ⟨hb2, .inr (.inr h3)⟩), by omega⟩
       ·
        skip
        refine vc_sr ?_; refine vr 2 ?_; refine vco_cmp true rfl rfl (cne_t h1) ?_; refine vr 3 ?_; refine vco_cmp true rfl rfl (cne_t h2) ?_; refine vr 4 ?_; refine vco_cmp true rfl rfl (cne_t h3) ?_; refine vr 1 ?_; refine vco_k [1, 16, 17, 18, 41] ?_; refine vc_cond_t rfl ?_; refine vc_sr ?_; refine vr 1 ?_; refine vco_k [2] ?_; refine vc_ret ⟨.inr rfl, _, .tmp rfl (.nil), ?_⟩; exact ⟨rfl, false, rfl, ⟨(fun h => by cases h), (fun h => by have h9 := (h.row i r hr).2; omega)⟩⟩
   ·
    have hb : p.rows.length ≤ i := by simpa using hb
    refine vc_exit ?_; refine vc_keep [] rfl ?_; refine vc_sr ?_; refine vr 1 ?_; refine vco_k [2] ?_; refine vc_ret ⟨.inr rfl, _, .tmp rfl (.nil), ?_⟩; exact ⟨rfl, true, rfl, ⟨fun _ => ⟨by omega, by omega, fun k r hr => hal k r (by have h9 := (List.getElem?_eq_some_iff.1 hr).1; omega) hr⟩, fun _ => rfl⟩⟩
end Go.Eng
/- What Minimize returns. -/
namespace Go.Eng
open Go.Proofs Num Lp
/-- A result in memory. -/
def SolV (H : Heap) (v : Value) (S : Soln) : Prop := ∃ f u w xv dv rv, v = .agg #[.int .i64 S.status, .bool f, u, w, xv, dv, rv] ∧ (CanV H (.agg #[.bool f, u, w]) S.value ∨ (S.value = 0 ∧ f = false ∧ u = .slice none 0 0 ∧ w = .slice none 0 0)) ∧ SlV CanP 3 H xv S.x ∧ SlV CanP 3 H dv S.dual ∧ SlV CanP 3 H rv S.ray
def SolZ (M : Nat) (S : Soln) : Prop := ∀ q, q ∈ S.x ∨ q ∈ S.dual ∨ q ∈ S.ray ∨ q = S.value → szQ q ≤ M
def sol0 : Value := .agg #[.int .i64 0, .bool false, .slice none 0 0, .slice none 0 0, .slice none 0 0, .slice none 0 0, .slice none 0 0]
/-- The value and the vector are those of a tableau. -/
def Last (p : Prg) (c : List Rat) (S : Soln) : Prop := S.status = 1 → ∃ T, I2 p c T ∧ S.value = -(T.c p.w) ∧ S.x = vals (Lay.vec p.lay.pF p.lay.mF T.pt) p.lp.n
def MinP (p : Prg) (c : List Rat) (M : Nat) (H : Heap) (v : Value) (H' : Heap) : Prop := Heap.le H H' ∧ ∃ s e, v = .tuple #[s, .int .i64 e] ∧
  ((¬ p.Ok ∧ e = 1 ∧ s = sol0) ∨ (p.Ok ∧ c.length ≠ p.free.length ∧ e = 21 ∧ s = sol0) ∨ (p.Ok ∧ c.length = p.free.length ∧ e = 0 ∧ ∃ S, SolV H' s S ∧ Chk p c S ∧ SolZ (2 * M + 2) S ∧ Last p c S))
theorem slV_nil {H : Heap} {α : Type} {P : Heap → List Value → α → Prop} {sz : Nat} : SlV P sz H (.slice none 0 0) ([] : List α) := ⟨none, 0, [], rfl, Nat.le_refl _, (fun i v h => by simp at h), els_nil⟩
theorem mem_vals {f : Nat → Rat} {n : Nat} {q : Rat} (h : q ∈ vals f n) : ∃ j, j < n ∧ q = f j := by
  unfold vals at h
  obtain ⟨j, hj, e⟩ := List.mem_map.1 h
  exact ⟨j, List.mem_range.1 hj, e.symm⟩
section
variable {p : Prg} {c : List Rat} {M : Nat} {T : Tab} {H K : Heap}
theorem vec_sz {N n : Nat} {z : Nat → Rat} (h0 : 1 ≤ N) (hz : ∀ j, j < p.w → szQ (z j) ≤ N) {j : Nat} (hj : j < p.lp.n) : szQ (Lay.vec p.lay.pF p.lay.mF z j) ≤ 2 * N + 1 := by
  have h1 := szQ_sub (z (p.lay.pF j)) (optv z (p.lay.mF j))
  have h2 := hz _ (lay_tl.pw j hj)
  have h3 : szQ (optv z (p.lay.mF j)) ≤ N := by
    rw [lay_mF hj]
    by_cases hf : p.lp.free j = true
    · rw [if_pos hf]
      have := mnz_lt p hj
      unfold mnz at this
      rw [if_pos hf] at this
      have := c1_u p
      have := u_w p
      exact hz _ (by omega)
    · rw [if_neg hf]; exact Nat.le_trans (show szQ (0 : Rat) ≤ 1 by decide) h0
  unfold Lay.vec; omega
theorem dual_sz {N : Nat} {f g : Nat → Rat} (hf : ∀ j, j < p.w → szQ (f j) ≤ N) (hg : ∀ j, j < p.w → szQ (g j) ≤ N) {i : Nat} (hi : i < p.lp.m) : szQ (p.lay.sF i * (f (p.lay.uF i) - g (p.lay.uF i))) ≤ 2 * N + 2 := by
  have h1 := szQ_mul (p.lay.sF i) (f (p.lay.uF i) - g (p.lay.uF i))
  have h2 := szQ_sub (f (p.lay.uF i)) (g (p.lay.uF i))
  have h3 := lay_tl.s1 i hi
  have h4 := hf _ (lay_tl.uw i hi)
  have h5 := hg _ (lay_tl.uw i hi)
  omega
theorem ret_inf (hok : p.Ok) (hcl : c.length = p.free.length) (hl : Fits p c M) (hle : Heap.le H K) (h : Inv p (pn p) T) (hn : ∀ j, j < p.u → 0 ≤ T.c j) (hneg : T.c p.w < 0) {dv : Value}
    (hd : SlV CanP 3 K dv (vals (fun i => p.lay.sF i * (pn p (p.lay.uF i) - T.c (p.lay.uF i))) p.lp.m)) : MinP p c M H (.tuple #[.agg #[.int .i64 2, .bool false, .slice none 0 0, .slice none 0 0, .slice none 0 0, dv, .slice none 0 0], .int .i64 0]) K := by
  have hz := hl.sz1 _ h
  refine ⟨hle, _, _, rfl, .inr (.inr ⟨hok, hcl, rfl, ⟨2, 0, [], _, []⟩, ⟨_, _, _, _, _, _, rfl, .inr ⟨rfl, rfl, rfl, rfl⟩, slV_nil, hd, slV_nil⟩, .inr (.inl ⟨rfl, rfl, rfl, rfl, hcl, mz_inf hok h hn hneg⟩), fun q hq => ?_, fun e => by cases e⟩)⟩
  rcases hq with hq | hq | hq | hq
  · cases hq
  · obtain ⟨i, hi, rfl⟩ := mem_vals hq
    exact dual_sz (fun j _ => hl.pn j) (fun j hj => hz.c j (by rw [h.rows.n]; omega)) hi
  · cases hq
  · rw [hq]; exact Nat.le_trans (show szQ (0 : Rat) ≤ 2 by decide) (Nat.le_add_left 2 _)
theorem ret_opt (hok : p.Ok) (hcl : c.length = p.free.length) (hl : Fits p c M) (hle : Heap.le H K) (h : I2 p c T) (hn : ∀ j, j < p.u → 0 ≤ T.c j) {f : Bool} {u w xv dv : Value}
    (hv : CanV K (.agg #[.bool f, u, w]) (-(T.c p.w))) (hx : SlV CanP 3 K xv (vals (Lay.vec p.lay.pF p.lay.mF T.pt) p.lp.n)) (hd : SlV CanP 3 K dv (vals (fun i => p.lay.sF i * (cst p c (p.lay.uF i) - T.c (p.lay.uF i))) p.lp.m)) :
    MinP p c M H (.tuple #[.agg #[.int .i64 1, .bool f, u, w, xv, dv, .slice none 0 0], .int .i64 0]) K := by
  have hz := hl.sz2 _ h.1
  have h1 := mz_opt hok hcl h hn
  refine ⟨hle, _, _, rfl, .inr (.inr ⟨hok, hcl, rfl, ⟨1, -(T.c p.w), _, _, []⟩, ⟨_, _, _, _, _, _, rfl, .inl hv, hx, hd, slV_nil⟩, .inl ⟨rfl, rfl, h1.1, h1.2⟩, fun q hq => ?_, fun _ => ⟨T, h, rfl, rfl⟩⟩)⟩
  have hb := hl.one
  rcases hq with hq | hq | hq | hq
  · obtain ⟨j, hj, rfl⟩ := mem_vals hq
    exact Nat.le_trans (vec_sz (n := 0) hb (fun j hj => pt_sz h.1.wf hz hb (by rw [h.1.rows.n]; exact hj)) hj) (by omega)
  · obtain ⟨i, hi, rfl⟩ := mem_vals hq
    exact dual_sz (fun j _ => hl.cst j) (fun j hj => hz.c j (by rw [h.1.rows.n]; omega)) hi
  · cases hq
  · rw [hq, szQ_neg]
    exact Nat.le_trans (hz.c p.w (by rw [h.1.rows.n]; exact Nat.le_refl _)) (by omega)
theorem ret_unb (hok : p.Ok) (hcl : c.length = p.free.length) (hl : Fits p c M) (hle : Heap.le H K) (h : I2 p c T) {s : Nat} (hs : s < p.u) (hneg : T.c s < 0) (hA : ∀ i, i < T.m → T.A i s ≤ 0) {xv rv : Value}
    (hx : SlV CanP 3 K xv (vals (Lay.vec p.lay.pF p.lay.mF T.pt) p.lp.n)) (hr : SlV CanP 3 K rv (vals (Lay.vec p.lay.pF p.lay.mF (T.dir s)) p.lp.n)) :
    MinP p c M H (.tuple #[.agg #[.int .i64 3, .bool false, .slice none 0 0, .slice none 0 0, xv, .slice none 0 0, rv], .int .i64 0]) K := by
  have hz := hl.sz2 _ h.1
  have hb := hl.one
  have huw := u_w p
  refine ⟨hle, _, _, rfl, .inr (.inr ⟨hok, hcl, rfl, ⟨3, 0, _, [], _⟩, ⟨_, _, _, _, _, _, rfl, .inr ⟨rfl, rfl, rfl, rfl⟩, hx, slV_nil, hr⟩, .inr (.inr ⟨rfl, rfl, rfl, mz_unb hok hcl h hs hneg hA⟩), fun q hq => ?_, fun e => by cases e⟩)⟩
  rcases hq with hq | hq | hq | hq
  · obtain ⟨j, hj, rfl⟩ := mem_vals hq
    exact Nat.le_trans (vec_sz (n := 0) hb (fun j hj => pt_sz h.1.wf hz hb (by rw [h.1.rows.n]; exact hj)) hj) (by omega)
  · cases hq
  · obtain ⟨j, hj, rfl⟩ := mem_vals hq
    exact Nat.le_trans (vec_sz (n := 0) hb (fun j hj => dir_sz h.1.wf hz hb (by rw [h.1.rows.n]; omega) (ray_out h.1.wf hneg)) hj) (by omega)
  · rw [hq]; exact Nat.le_trans (show szQ (0 : Rat) ≤ 2 by decide) (Nat.le_add_left 2 _)
end
end Go.Eng
/- Walks over package simplex, simplex.go: Minimize. -/
namespace Go.Eng
open Go.Proofs Num Lp
theorem Minimize_ok {H : Heap} {v cv : Value} {p : Prg} {c : List Rat} {M N : Nat} (hp : ProgV N H v p) (hc : SlV (RatP N) 3 H cv c) (hl : Fits p c M) (hcN : (c.length : Int) ≤ 1099511627776) (hN : (N : Int) ≤ 549755813888) (hbits : (M : Int) ≤ 34359738368) :
  Fn Tryz.prog 12 #[v, cv] H (MinP p c M H) := by
 obtain ⟨fv, rv0, rfl, hfv, hrv0⟩ := id hp
 obtain ⟨Af, cf, xf, rfl, hrF, hxF⟩ := hfv.one
 obtain ⟨Ar, cr, xr, rfl, hrR, hxR⟩ := hrv0.row
 obtain ⟨Ac, cc, xc, rfl, hcc, hrc, hec⟩ := id hc; refine fn_intro (args := [_, _]) Tryz.func12 rfl rfl Tryz.ntmps12 rfl rfl fun w0 => ?_; refine vc_keep [0, 1] rfl ?_; refine vc_sr ?_; refine vco_box rfl rfl ?_; refine vco_alloc el33 rfl ?_; refine vr 1 ?_; refine vco_k [1, 2, 4] ?_; refine vc_seq ?_; refine vc_sr ?_; refine vr 1 ?_; refine vco_call rfl rfl (Valid_ok hp) ?_; rintro v1 H1 ⟨e1, b1, rfl, hb1⟩; rw [e1]; refine vr 1 ?_; refine vco_k [1, 2, 4, 13] ?_; refine vc_cond rfl (fun hb => ?_) (fun hb => ?_)
 ·
  have hb : ¬ p.Ok := fun h => by have h9 := hb1.2 h; rw [h9] at hb; simp at hb
  refine vc_sr ?_; refine vco_st tbOk rfl el33 rfl rfl ?_; obtain ⟨ti, hti, htz⟩ := sz33; refine vco_bstore (.inl ⟨rfl, rfl⟩) rfl rfl rfl hti htz rfl rfl rfl ?_; refine vr 1 ?_; refine vco_k [4, 5] ?_; obtain ⟨ri0, rhi0, rhz0⟩ := sz33; refine vc_ret ⟨.inr rfl, _, .agg rfl Tryz.underlying33 rhi0 rhz0 (.tmp rfl (.nil)), ?_⟩; exact ⟨.refl _, _, _, rfl, .inl ⟨hb, rfl, rfl⟩⟩
 ·
  have hok : p.Ok := hb1.1 (by simpa using hb); have hn4 := hok.cols; have hm8 := hok.rows; have hw4 := w_le p; have e1 : p.lp.n = p.free.length := rfl; have e2 : p.lp.m = p.rows.length := rfl
  have hwL : (p.lay.w : Int) ≤ 1000000 := by show ((p.w : Nat) : Int) ≤ _; omega
  have hmT : ((p.tab0.m : Nat) : Int) ≤ 1000000 := by show ((p.rows.length : Nat) : Int) ≤ _; omega
  have hbo := hl.one; refine vc_skip ?_; refine vc_keep [1, 2, 4] rfl ?_; refine vc_seq ?_; refine vc_sr ?_; refine vr 6 ?_; refine vco_k [1, 2, 4, 20] ?_; refine vc_cond rfl (fun hb => ?_) (fun hb => ?_)
  ·
   have hb : c.length ≠ p.free.length := by simpa [Int.natCast_inj] using hb
   refine vc_sr ?_; refine vco_st tbOk rfl el33 rfl rfl ?_; obtain ⟨ti, hti, htz⟩ := sz33; refine vco_bstore (.inl ⟨rfl, rfl⟩) rfl rfl rfl hti htz rfl rfl rfl ?_; refine vr 1 ?_; refine vco_k [4, 5] ?_; obtain ⟨ri0, rhi0, rhz0⟩ := sz33; refine vc_ret ⟨.inr rfl, _, .agg rfl Tryz.underlying33 rhi0 rhz0 (.tmp rfl (.nil)), ?_⟩; exact ⟨.refl _, _, _, rfl, .inr (.inl ⟨hok, hb, rfl, rfl⟩)⟩
  ·
   have hcl : c.length = p.free.length := by simpa [Int.natCast_inj] using hb
   refine vc_skip ?_; refine vc_keep [1, 2, 4] rfl ?_; refine vc_sr ?_; refine vr 1 ?_; refine vco_call rfl rfl (newTableau_ok (n := p.free.length) (m := p.rows.length) hp hok rfl rfl hN) ?_; rintro v5 H5 ⟨G, rfl, ht5, hcb5, hle5⟩; refine vr 1 ?_; refine vco_k [1, 4, 6] ?_; refine vc_sr ?_; refine vr 2 ?_; refine vco_call rfl rfl (penalties_ok ht5 hwL) ?_; rintro v6 H6 ⟨hk6, hl6, hs6⟩; refine vco_call rfl rfl (price_ok (N := 2 * M) (f := pn p) (ht5.kept hk6) hs6 (fun i hi => unit_lt p hi) (by omega) hwL hmT (fun j _ => Nat.le_trans (hl.pn j) (by omega)) (fun i hi j _ => Nat.le_trans (hl.tab i hi j) (by omega)) hl.pr1) ?_; rintro _ H7 ⟨cv7, gc7, _, ht7, hc7, hle7⟩; refine vco_k [1, 4, 6] ?_; refine vc_sr ?_; refine vr 1 ?_; refine vco_call rfl rfl (solve_ok (G := (G.withC cv7 gc7)) (N := M) (I := Inv p (pn p)) ht7 hc7 (Inv.base pn_last) (fun S r s h hb => h.step (by rw [h.rows.n]; exact u_w p) hb) (fun S h => ⟨h.wf, h.feas, hl.sz1 _ h, h.rows.m, h.rows.n⟩) (by omega) hwL hmT) ?_; rintro v8 H8 ⟨T8, hI8, ht8, hc8, hle8, hv8⟩
   have hn8 : ∀ j, j < p.u → 0 ≤ T8.c j := by rcases hv8 with ⟨_, h⟩ | ⟨s, _, h1, h2, h3⟩; exact h; exact (mz_noray hI8 h1 h2 h3).elim
   have hz8 := hl.sz1 _ hI8; have hzw8 : szQ (T8.c p.lay.w) ≤ M := hz8.c _ (by rw [hI8.rows.n]; exact Nat.le_refl _)
   have hm8T : ((T8.m : Nat) : Int) ≤ 1000000 := by rw [hI8.rows.m]; omega
   refine vco_k [1, 4, 6] ?_; refine vc_seq ?_; refine vc_sr ?_; refine vr 1 ?_; refine vco_call rfl rfl (value_ok (G := (G.withC cv7 gc7)) ht8 hc8 (by omega)) ?_; rintro v9 H9 ⟨hk9, hl9, n9, d9, b9, rfl, hq9⟩; refine vco_call rfl rfl (Fn.frI (hk9.ne ht8.ne) (ssign_ok hq9 (by rw [szQ_neg]; omega))) ?_; rintro v10 H10 ⟨hk10, hl10, rfl⟩; have hk8 := hk9.trans hk10; have ht10 := ht8.kept hk8; have hc10 := hc8.kept hk8; have hle10 := ((((hle5.trans hk6.le).trans hle7).trans hle8).trans hk8.le); refine vr 1 ?_; refine vco_k [1, 4, 6, 33] ?_; refine vc_cond rfl (fun hb => ?_) (fun hb => ?_)
   ·
    have hneg : T8.c p.w < 0 := by have h9 := sgn_gt.1 (show 0 < sgnQ (-(T8.c p.lay.w)) by simpa using hb); have h8 : T8.c p.lay.w = T8.c p.w := rfl; grind
    refine vc_sr ?_; refine vr 2 ?_; refine vco_call rfl rfl (penalties_ok (G := (G.withC cv7 gc7)) ht10 hwL) ?_; rintro v11 H11 ⟨hk11, hl11, hs11⟩; refine vco_call rfl rfl (dual_ok (G := (G.withC cv7 gc7)) (n := p.lp.n) (m := p.lp.m) (N := M) (f := pn p) (ht10.kept hk11) (hc10.kept hk11) lay_tl hs11 (fun j _ => hl.pn j) (fun j hj => hz8.c j (by rw [hI8.rows.n]; exact Nat.le_of_lt hj)) (by omega) hwL (by omega)) ?_; rintro v12 H12 ⟨hk12, hl12, A12, c12, x12, rfl, hc12, hr12, he12⟩; refine vco_st tbOk rfl el33 rfl rfl ?_; obtain ⟨ti, hti, htz⟩ := sz33; refine vco_bstore (.inl ⟨rfl, rfl⟩) rfl rfl rfl hti htz rfl rfl rfl ?_; refine vr 1 ?_; refine vco_k [4, 5] ?_; obtain ⟨ri0, rhi0, rhz0⟩ := sz33; refine vc_ret ⟨.inr rfl, _, .agg rfl Tryz.underlying33 rhi0 rhz0 (.tmp rfl (.nil)), ?_⟩; exact ret_inf hok hcl hl (((hle10.trans hk11.le).trans hk12.le).trans (rem_le _ _)) hI8 hn8 hneg (SlV.le ⟨_, _, _, rfl, hc12, hr12, he12⟩ canUp (rem_le _ _))
   ·
    have hneg : ¬ T8.c p.w < 0 := fun h => by have h9 : ¬ 0 < sgnQ (-(T8.c p.lay.w)) := (by simpa using hb); exact h9 (sgn_gt.2 (by have h8 : T8.c p.lay.w = T8.c p.w := rfl; grind))
    refine vc_skip ?_; refine vc_keep [1, 4, 6] rfl ?_; refine vc_sr ?_; refine vr 1 ?_; refine vco_call rfl rfl (expel_ok (G := (G.withC cv7 gc7)) (N := M) (J := Jx p) ht10 hc10 ⟨hI8, mz_clean hI8 hneg⟩ (fun k S h hk hd => h.skip hd) (fun k S s h hk hu hs hp => h.pivot hk hu hs hp) (fun k S h => ⟨hl.sz1 _ h.1, by rw [h.1.rows.m, hI8.rows.m], by rw [h.1.rows.n, hI8.rows.n]⟩) (by omega) hwL hm8T) ?_; rintro _ H11 ⟨T11, hJ11, ht11, hc11, hle11⟩; rw [hI8.rows.m] at hJ11; have hI11 := hJ11.1; refine vco_k [1, 4, 6] ?_; refine vc_sr ?_; refine vr 2 ?_; refine vco_hfld tbOk rfl rfl rfl ?_; refine vco_hload tbOk rfl rfl rfl (ht11.cell0) ?_; refine vco_call rfl rfl (zeros_fr (gs := (G.withC cv7 gc7).gs) (n := p.lay.w) ht11.ne (by omega)) ?_; rintro v12 H12 ⟨hl12, z, xs0, rfl, hwk12, hel12⟩; refine vr 1 ?_; refine vco_k [1, 4, 6, 7] ?_; refine vc_seq ?_; refine vc_sr ?_; refine vr 1 ?_; refine vco_call rfl rfl (Fn.frS (gs := (z :: (G.withC cv7 gc7).gs)) (hwk12.ne ht11.ne) (svector_ok (hc.le (ratUp N) ((hle10.trans hle11).trans hwk12.le)) (by omega) hcN)) ?_; rintro v13 H13 ⟨hk13, hl13, hs13⟩; have hwk13 := hwk12.kept hk13; obtain ⟨Av, cv, xv, rfl, hrv, hxv⟩ := hs13.num; obtain ⟨Ap, cp, xp, hpv, hrp, hxp⟩ := ht11.self.plus.one; obtain ⟨Am, cm, xm, hmv, hrm, hxm⟩ := ht11.self.minus.one; rw [lay_tl.plen] at hpv; rw [lay_tl.mlen] at hmv; rw [hcl]; refine vr 2 ?_; refine vco_k [4, 6, 7, 47, 48, 49] ?_; refine vc_block ?_
    refine vc_loop2 (fun (k : Nat) (xs : List Value) => p.free.length - k) (fun (k : Nat) (xs : List Value) => put (put (put (put (put (put (emp) 4 (.box [.int .i64 0, .bool false, .slice none 0 0, .slice none 0 0, .slice none 0 0, .slice none 0 0, .slice none 0 0])) 6 (.val (.pointer (some ⟨G.g, 0, none⟩)))) 7 (.val (.slice (some ⟨z, 0, none⟩) p.lay.w p.lay.w))) 47 (.val (.slice Av p.free.length cv))) 48 (.val (.int .i64 (p.free.length : Int)))) 49 (.val (.int .i64 (k : Int)))) (fun (k : Nat) (xs : List Value) H' => Work (G.withC cv7 gc7).gs H11 H' z xs (p.lay.w * 3) 90 ∧ Els (NumV (rem H' (z :: (G.withC cv7 gc7).gs))) 3 xs (vals (rwk p.lay (fn c) 1 k) p.lay.w) ∧ Heap.le (rem H13 (z :: (G.withC cv7 gc7).gs)) (rem H' (z :: (G.withC cv7 gc7).gs)) ∧ k ≤ p.free.length) 0 xs0 (⟨hwk13, hel12 _, .refl _, Nat.zero_le _⟩) sub_auto ?_; rintro k xs H14 ⟨hwk14, hel14, hle14, hk14⟩; have hw14 := hwk14.tab ht11; have hxl := hel14.len; rw [vals_len] at hxl; refine vc_sr ?_; refine vr 1 ?_; refine vco_k [4, 6, 7, 47, 48, 49, 50] ?_; refine vc_seq ?_; refine vc_cond rfl (fun hb => ?_) (fun hb => ?_)
    ·
     have hkn : k < p.free.length := by simpa using hb
     obtain ⟨q, hqk⟩ : ∃ q, c[k]? = some q := ⟨_, List.getElem?_eq_getElem (by omega)⟩; obtain ⟨n1, d1, b1, hn1, hx1⟩ := hxv k q hqk; have hfq : fn c k = q := fn_get hqk; have hszq : szQ q ≤ N + 2 := RawV.size (hec.at_ k q hqk); obtain ⟨up, hup, hupe⟩ := hxp k _ (lay_tl.p hkn); obtain ⟨um, hum, hume⟩ := hxm k _ (lay_tl.mi hkn)
     cases hupe
     cases hume
     have hpwk := lay_tl.pw k hkn; have hmwk := lay_tl.mw k hkn; rw [← hfq] at hn1; refine vc_skip ?_; refine vc_keep [4, 6, 7, 47, 48, 49] rfl ?_; refine vc_seq ?_; refine vc_block ?_; refine vc_sr ?_; refine vr 1 ?_; refine vco_at_st (vs := [.int .i64 n1, .int .i64 d1, .pointer b1]) tbOk rfl rfl rfl rfl ((hrv.le hle14).le (rem_le _ _)) rfl (by decide) hx1 (by omega) (by omega) fun _ => ?_; refine vco_alloc el90 rfl ?_; refine vr 1 ?_; obtain ⟨ti, hti, htz⟩ := sz90; refine vco_bstore (.inl ⟨rfl, rfl⟩) rfl rfl rfl hti htz rfl rfl rfl ?_; refine vco_k [4, 6, 7, 8, 9, 47, 48, 49] ?_; refine vc_sd .drawH [0, 1, 2, 3, 4, 5, 6, 7, 8, 9, 10] follows (by kernel_rfl) ?_; refine vr 3 ?_; refine vco_hfld tbOk rfl rfl rfl ?_; refine vco_hload tbOk rfl rfl rfl (show cell _ _ = some (.slice Ap p.free.length cp) from by rw [← show (G.withC cv7 gc7).pv = .slice Ap p.free.length cp from hpv]; exact hw14.cell 2 _ rfl) ?_; refine vr 1 ?_; refine vco_at tbOk rfl rfl rfl rfl rfl (hrp.le hwk14.hle) (by rw [Int.toNat_natCast]; exact hup) (by omega) (by omega) fun _ => ?_; refine vr 1 ?_; obtain ⟨ti, hti, htz⟩ := sz90; refine vco_set (.inr rfl) tbOk rfl rfl rfl (by omega) (by omega) (hwk14.blk) rfl (by show 0 + p.lay.w * 3 ≤ xs.length; omega) hti htz (fun _ => rfl) rfl rfl rfl fun _ => ?_; refine vco_k [4, 6, 7, 8, 9, 47, 48, 49] ?_; have hwk15 : Work (G.withC cv7 gc7).gs H11 (ins H14 z { (⟨xs, p.lay.w * 3, 90, true⟩ : Ent) with xs := splice xs (0 + ((p.lay.pF k : Nat) : Int).toNat * 3) [.int .i64 n1, .int .i64 d1, .pointer b1] }) z (splice xs (p.lay.pF k * 3) [.int .i64 n1, .int .i64 d1, .pointer b1]) (p.lay.w * 3) 90 := hwk14.set (by rw [Int.toNat_natCast]; exact ent_set)
     have hel15 : Els (NumV (rem (ins H14 z { (⟨xs, p.lay.w * 3, 90, true⟩ : Ent) with xs := splice xs (0 + ((p.lay.pF k : Nat) : Int).toNat * 3) [.int .i64 n1, .int .i64 d1, .pointer b1] }) (z :: (G.withC cv7 gc7).gs))) 3 (splice xs (p.lay.pF k * 3) [.int .i64 n1, .int .i64 d1, .pointer b1]) (vals (upd (rwk p.lay (fn c) 1 k) (p.lay.pF k) (fn c k)) p.lay.w) := by
      rw [rem_ins_in _ (List.mem_cons_self ..)]; exact els_upd hel14 (by omega) (hn1.le hle14)
     have hle15 : Heap.le (rem H13 (z :: (G.withC cv7 gc7).gs)) (rem (ins H14 z { (⟨xs, p.lay.w * 3, 90, true⟩ : Ent) with xs := splice xs (0 + ((p.lay.pF k : Nat) : Int).toNat * 3) [.int .i64 n1, .int .i64 d1, .pointer b1] }) (z :: (G.withC cv7 gc7).gs)) := by rw [rem_ins_in _ (List.mem_cons_self ..)]; exact hle14
     show VC _ _ _ _ _ _ _ (ins H14 z { (⟨xs, p.lay.w * 3, 90, true⟩ : Ent) with xs := splice xs (0 + ((p.lay.pF k : Nat) : Int).toNat * 3) [.int .i64 n1, .int .i64 d1, .pointer b1] })
     generalize ins H14 z { (⟨xs, p.lay.w * 3, 90, true⟩ : Ent) with xs := splice xs (0 + ((p.lay.pF k : Nat) : Int).toNat * 3) [.int .i64 n1, .int .i64 d1, .pointer b1] } = H15 at hwk15 hel15 hle15 ⊢
     have hw15 := hwk15.tab ht11; have hxl5 := hel15.len; rw [vals_len] at hxl5; refine vc_sr ?_; refine vr 2 ?_; refine vco_hfld tbOk rfl rfl rfl ?_; refine vco_hload tbOk rfl rfl rfl (show cell _ _ = some (.slice Am p.free.length cm) from by rw [← show (G.withC cv7 gc7).mv = .slice Am p.free.length cm from hmv]; exact hw15.cell 3 _ rfl) ?_; refine vr 1 ?_; refine vco_at tbOk rfl rfl rfl rfl rfl (hrm.le hwk15.hle) (by rw [Int.toNat_natCast]; exact hum) (by omega) (by omega) fun _ => ?_; refine vr 1 ?_; refine vco_k [4, 6, 7, 8, 9, 47, 48, 49, 71] ?_; refine vc_cond rfl (fun hb => ?_) (fun hb => ?_)
     ·
      have hb : 0 ≤ p.lay.mZ k := by simpa using hb
      refine vc_draw .drawH [0, 1, 2, 3, 4, 5, 6, 7, 8, 9, 10, 11] follows (by kernel_rfl) ?_; refine vr 3 ?_; refine vco_hfld tbOk rfl rfl rfl ?_; refine vco_hload tbOk rfl rfl rfl (show cell _ _ = some (.slice Am p.free.length cm) from by rw [← show (G.withC cv7 gc7).mv = .slice Am p.free.length cm from hmv]; exact hw15.cell 3 _ rfl) ?_; refine vr 1 ?_; refine vco_at tbOk rfl rfl rfl rfl rfl (hrm.le hwk15.hle) (by rw [Int.toNat_natCast]; exact hum) (by omega) (by omega) fun _ => ?_; refine vr 1 ?_; refine vco_callM rfl rfl (Fn.frM (hwk15.ne ht11.ne) (sneg_ok (hn1.le hle15) (by rw [hfq]; omega))) (fun _ _ h => by first | exact h.le | exact h.1) ?_; rintro v17 H17 ⟨hk17, hl17, n7, d7, b7, rfl, hq17⟩; have hwk17 := hwk15.kept hk17; obtain ⟨ti, hti, htz⟩ := sz90; refine vco_set (.inr rfl) tbOk rfl rfl rfl (by omega) (by omega) (hwk17.blk) rfl (by show 0 + p.lay.w * 3 ≤ (splice xs (p.lay.pF k * 3) [.int .i64 n1, .int .i64 d1, .pointer b1]).length; omega) hti htz (fun _ => rfl) rfl rfl rfl fun _ => ?_; refine vco_end ?_; have hwk18 := hwk17.set (ent_set (xs := splice xs (p.lay.pF k * 3) [.int .i64 n1, .int .i64 d1, .pointer b1]) (vs := [.int .i64 n7, .int .i64 d7, .pointer b7]) (k := (p.lay.mZ k).toNat) (sz := 3)); refine vc_keep [4, 6, 7, 47, 48, 49] rfl ?_; refine vc_region rfl ?_; refine vco_add rfl rfl ⟨by omega, by omega⟩ ?_; refine vr 1 ?_; refine vco_end ?_; exact ⟨k + 1, _, by omega, sub_auto, hwk18, by rw [rem_ins_in _ (List.mem_cons_self ..), rwk_succ, if_pos hb, Rat.mul_one]; exact els_upd (hel15.mono fun vs a => numUp _ _ vs a hk17.le) (by omega) hq17, by rw [rem_ins_in _ (List.mem_cons_self ..)]; exact hle15.trans hk17.le, by omega⟩
     ·
      have hb : ¬ 0 ≤ p.lay.mZ k := by simpa using hb
      refine vc_skip ?_; refine vc_keep [4, 6, 7, 47, 48, 49] rfl ?_; refine vc_region rfl ?_; refine vco_add rfl rfl ⟨by omega, by omega⟩ ?_; refine vr 1 ?_; refine vco_end ?_; exact ⟨k + 1, _, by omega, sub_auto, hwk15, by rw [rwk_succ, if_neg hb, Rat.mul_one]; exact hel15, hle15, by omega⟩
    ·
     have hb : p.free.length ≤ k := by simpa using hb
     obtain rfl : p.free.length = k := by omega
     have hkd := hwk14.done; have hcs : SlV NumV 3 (rem H14 (G.withC cv7 gc7).gs) (.slice (some ⟨z, 0, none⟩) p.lay.w p.lay.w) (vals (cst p c) p.lay.w) := ⟨some ⟨z, 0, none⟩, p.lay.w, xs, by rw [vals_len], by rw [vals_len]; exact Nat.le_refl _, hwk14.rd, hel14.mono fun vs a => numUp _ _ vs a hkd.2⟩
     have hm11 : ((T11.m : Nat) : Int) ≤ 1000000 := by rw [hI11.rows.m]; omega
     skip
     have hz11 := hl.sz1 _ hI11; refine vc_exit ?_; refine vc_keep [4, 6, 7] rfl ?_; refine vc_sr ?_; refine vr 2 ?_; refine vco_call rfl rfl (price_ok (G := (G.withC cv7 gc7)) (N := 2 * M) (f := cst p c) (ht11.kept hkd.1) hcs (fun i hi => by have h9 := hI11.wf.lt i hi; rw [hI11.rows.n] at h9; exact h9) (by omega) hwL hm11 (fun j _ => Nat.le_trans (hl.cst j) (by omega)) (fun i hi j hj => Nat.le_trans (hz11.A i hi j (by rw [hI11.rows.n]; exact hj)) (by omega)) (fun k hk j hj => hl.pr2 _ hI11 k hk j (by rw [hI11.rows.n]; exact hj))) ?_; rintro _ H19 ⟨cv19, gc19, _, ht19, hc19, hle19⟩; refine vco_k [4, 6, 7] ?_; refine vc_seq ?_; refine vc_sr ?_; refine vr 1 ?_; refine vco_call rfl rfl (solve_ok (G := ((G.withC cv7 gc7).withC cv19 gc19)) (N := M) (I := I2 p c) ht19 hc19 (I2.start hJ11) (fun S r s h hb => h.step hb) (fun S h => ⟨h.1.wf, h.1.feas, hl.sz2 _ h.1, by rw [h.1.rows.m]; exact hI11.rows.m.symm, by rw [h.1.rows.n]; exact hI11.rows.n.symm⟩) (by omega) hwL hm11) ?_; rintro v20 H20 ⟨T20, hI20, ht20, hc20, hle20, hv20⟩; have hz20 := hl.sz2 _ hI20.1; have hzw20 : szQ (T20.c p.lay.w) ≤ M := hz20.c _ (by rw [hI20.1.rows.n]; exact Nat.le_refl _)
     have hm20 : ((T20.m : Nat) : Int) ≤ 1000000 := by rw [hI20.1.rows.m]; omega
     have hcs20 := hcs.le numUp (hle19.trans hle20); have hle20H := ((hle10.trans hle11).trans hkd.1.le).trans (hle19.trans hle20); have hpz : ∀ j, j < p.lay.w → szQ (T20.pt j) ≤ M := fun j hj => pt_sz hI20.1.wf hz20 hbo (by rw [hI20.1.rows.n]; exact hj); refine vr 1 ?_; refine vco_k [4, 6, 7, 10] ?_
     rcases hv20 with ⟨rfl, hn20⟩ | ⟨s, rfl, hs20, hneg20, hA20⟩
     ·
      skip
      refine vc_sr ?_; refine vr 1 ?_; refine vco_cmp false rfl rfl (cge_f (by decide)) ?_; refine vco_k [4, 6, 7, 10, 90] ?_; refine vc_cond_f rfl ?_; refine vc_skip ?_; refine vc_keep [4, 6, 7] rfl ?_; refine vc_sr ?_; refine vr 1 ?_; refine vco_call rfl rfl (value_ok (G := ((G.withC cv7 gc7).withC cv19 gc19)) ht20 hc20 (by omega)) ?_; rintro v23 H23 ⟨hk23, hl23, n23, d23, b23, rfl, hq23⟩; refine vco_call rfl rfl (Fn.frame (gs := ((G.withC cv7 gc7).withC cv19 gc19).gs) (hk23.ne ht20.ne) (sout_ok hq23 (by rw [szQ_neg]; omega))) ?_; rintro v24 H24 ⟨⟨hl24, hq24⟩, hs24⟩; have hk24 := hk23.trans ⟨hl24, hs24⟩; have ht24 := ht20.kept hk24; have hc24 := hc20.kept hk24; obtain ⟨u24, w24, rfl, hu24, hw24⟩ := id hq24; obtain ⟨A27, c27, rfl, _, _⟩ := hu24; obtain ⟨A28, c28, rfl, _, _⟩ := hw24; refine vr 1 ?_; refine vco_call rfl rfl (point_ok (G := ((G.withC cv7 gc7).withC cv19 gc19)) ht24 hI20.1.wf lay_tl hpz (by omega) hwL (by omega) hm20) ?_; rintro v25 H25 ⟨hk25, hl25, A25, c25, x25, rfl, hc25, hr25, he25⟩; refine vr 2 ?_; refine vco_call rfl rfl (dual_ok (G := ((G.withC cv7 gc7).withC cv19 gc19)) (n := p.lp.n) (m := p.lp.m) (N := M) (f := cst p c) (ht24.kept hk25) (hc24.kept hk25) lay_tl (hcs20.le numUp (hk24.le.trans hk25.le)) (fun j _ => hl.cst j) (fun j hj => hz20.c j (by rw [hI20.1.rows.n]; exact Nat.le_of_lt hj)) (by omega) hwL (by omega)) ?_; rintro v26 H26 ⟨hk26, hl26, A26, c26, x26, rfl, hc26, hr26, he26⟩; refine vco_st tbOk rfl el33 rfl rfl ?_
      obtain ⟨ti, hti, htz⟩ := sz33; refine vco_bstore (.inl ⟨rfl, rfl⟩) rfl rfl rfl hti htz rfl rfl rfl ?_; refine vr 1 ?_; refine vco_k [4, 5] ?_; obtain ⟨ri0, rhi0, rhz0⟩ := sz33; refine vc_ret ⟨.inr rfl, _, .agg rfl Tryz.underlying33 rhi0 rhz0 (.tmp rfl (.nil)), ?_⟩; exact ret_opt hok hcl hl ((((hle20H.trans hk24.le).trans hk25.le).trans hk26.le).trans (rem_le _ _)) hI20 hn20 (CanV.le hq24 ((hk25.le.trans hk26.le).trans (rem_le _ _))) (SlV.le ⟨_, _, _, rfl, hc25, hr25, he25⟩ canUp (hk26.le.trans (rem_le _ _))) (SlV.le ⟨_, _, _, rfl, hc26, hr26, he26⟩ canUp (rem_le _ _))
     ·
      skip
      refine vc_sr ?_; refine vr 1 ?_; refine vco_cmp true rfl rfl (cge_t (by omega)) ?_; refine vco_k [4, 6, 7, 10, 90] ?_; refine vc_cond_t rfl ?_; refine vc_sr ?_; refine vr 1 ?_; refine vco_call rfl rfl (point_ok (G := ((G.withC cv7 gc7).withC cv19 gc19)) ht20 hI20.1.wf lay_tl hpz (by omega) hwL (by omega) hm20) ?_; rintro v25 H25 ⟨hk25, hl25, A25, c25, x25, rfl, hc25, hr25, he25⟩; have huw := u_w p; have hns := ray_out hI20.1.wf hneg20; refine vr 2 ?_; refine vco_call rfl rfl (ray_ok (G := ((G.withC cv7 gc7).withC cv19 gc19)) (N := M) (s := s) (ht20.kept hk25) hI20.1.wf lay_tl (Nat.lt_of_lt_of_le hs20 huw) hns (fun i hi => hz20.A i hi s (by rw [hI20.1.rows.n]; exact Nat.le_of_lt (Nat.lt_of_lt_of_le hs20 huw))) (fun j _ => dir_sz hI20.1.wf hz20 hbo (by rw [hI20.1.rows.n]; exact Nat.le_of_lt (Nat.lt_of_lt_of_le hs20 huw)) hns) (by omega) hwL (by omega) hm20) ?_; rintro v26 H26 ⟨hk26, hl26, A26, c26, x26, rfl, hc26, hr26, he26⟩; refine vco_st tbOk rfl el33 rfl rfl ?_; obtain ⟨ti, hti, htz⟩ := sz33; refine vco_bstore (.inl ⟨rfl, rfl⟩) rfl rfl rfl hti htz rfl rfl rfl ?_; refine vr 1 ?_; refine vco_k [4, 5] ?_; obtain ⟨ri0, rhi0, rhz0⟩ := sz33; refine vc_ret ⟨.inr rfl, _, .agg rfl Tryz.underlying33 rhi0 rhz0 (.tmp rfl (.nil)), ?_⟩; exact ret_unb hok hcl hl (((hle20H.trans hk25.le).trans hk26.le).trans (rem_le _ _)) hI20 hs20 hneg20 hA20 (SlV.le ⟨_, _, _, rfl, hc25, hr25, he25⟩ canUp (hk26.le.trans (rem_le _ _))) (SlV.le ⟨_, _, _, rfl, hc26, hr26, he26⟩ canUp (rem_le _ _))
end Go.Eng
/- Walks over package amortcostkeep2, part 1: Rat. -/
namespace Go.Eng
open Go.Proofs Num Lp
theorem kRat_ok {H : Heap} {f : Bool} {A1 A2 : Option Addr} {m1 c1 m2 c2 : Nat} :
  Fn Tryz.prog 28 #[.agg #[.bool f, .slice A1 m1 c1, .slice A2 m2 c2]] H (RetE H (.bool (decide (m1 ≤ 2 ∧ m2 ≤ 2)))) := by
 refine fn_intro (args := [_]) Tryz.func28 rfl rfl Tryz.ntmps28 rfl rfl fun w0 => ?_; refine vc_keep [0] rfl ?_; refine vc_sr ?_; refine vco_box rfl rfl ?_; refine vr 1 ?_; refine vco_k [1] ?_
 by_cases h1 : m1 ≤ 2
 ·
  skip
  by_cases h2 : m2 ≤ 2
  ·
   skip
   refine vc_sr ?_; refine vr 3 ?_; refine vco_cmp true rfl rfl (cle_t (by omega)) ?_; refine vr 4 ?_; refine vco_cmp true rfl rfl (cle_t (by omega)) ?_; refine vr 2 ?_; refine vco_k [2] ?_; refine vc_ret ⟨.inr rfl, _, .tmp rfl (.nil), ?_⟩; exact ⟨rfl, by rw [decide_eq_true ⟨h1, h2⟩]; rfl⟩
  ·
   skip
   refine vc_sr ?_; refine vr 3 ?_; refine vco_cmp true rfl rfl (cle_t (by omega)) ?_; refine vr 4 ?_; refine vco_cmp false rfl rfl (cle_f (by omega)) ?_; refine vr 2 ?_; refine vco_k [2] ?_; refine vc_ret ⟨.inr rfl, _, .tmp rfl (.nil), ?_⟩; exact ⟨rfl, by rw [decide_eq_false (fun h => h2 h.2)]; rfl⟩
 ·
  skip
  refine vc_sr ?_; refine vr 3 ?_; refine vco_cmp false rfl rfl (cle_f (by omega)) ?_; refine vr 7 ?_; refine vco_k [2] ?_; refine vc_ret ⟨.inr rfl, _, .tmp rfl (.nil), ?_⟩; exact ⟨rfl, by rw [decide_eq_false (fun h => h1 h.1)]; rfl⟩
end Go.Eng
/- The engine, part 14: 'x[i].f' as one step. -/
namespace Go.Eng
section
variable {P : Program} {n : Nat} {all : Array Oper} {md : Mode} {tb : Tb} {s : St} {H : Heap} {K : St → Heap → Prop} {r : List Oper} {ty : TypeId} {pos : String} {after : Array Edge} {gd : Option (Nat × Bool)}
theorem put_val_same (s : St) (d : Nat) (v : Value) : ev (put s d (.val v)) (.tmp d) = some v := by simp [ev, put]
/-- 'x[i].f' of one cell. -/
theorem vco_atf {t t2 t3 : TypeId} {x i : Operand} {A : Option Addr} {m c d1 d2 f o z : Nat} {dst3 : Option Nat} {ty2 ty3 : TypeId} {pos2 pos3 : String} {after2 after3 : Array Edge} {gd2 gd3 : Option (Nat × Bool)} {k : IntKind} {j : Int} {e sz sz2 : Nat} {ps : List (Nat × Nat)} {ti : Ti} {xs : List Value} {v : Value}
    (htb : TbOk P tb) (ht : tb[t]? = some (.sl e sz)) (ht2 : tb[t2]? = some (.st sz2 ps)) (hf : ps[f]? = some (o, z)) (ht3 : tb[t3]? = some ti) (h1 : oneB ti = true) (hx : ev s x = some (.slice A m c)) (hi : ev s i = some (.int k j)) (hr : Rd H A xs) (hv : xs[j.toNat * sz + o]? = some v) (h0 : 0 ≤ j) (hm : j < m)
    (hk : ∀ a1 a2 : Addr, VCO P n all md r (putO (put (put s d1 (.val (.pointer (some a1)))) d2 (.val (.pointer (some a2)))) dst3 (.val v)) H K)
    (hg : gdB all s gd = some true := by rfl) (nb : md.nb s (some d1) = true := by rfl)
    (hg2 : ∀ a1 : Addr, gdB all (put s d1 (.val (.pointer (some a1)))) gd2 = some true := by exact fun _ => rfl) (nb2 : ∀ a1 : Addr, md.nb (put s d1 (.val (.pointer (some a1)))) (some d2) = true := by exact fun _ => rfl)
    (hg3 : ∀ a1 a2 : Addr, gdB all (put (put s d1 (.val (.pointer (some a1)))) d2 (.val (.pointer (some a2)))) gd3 = some true := by exact fun _ _ => rfl) (nb3 : ∀ a1 a2 : Addr, md.nb (put (put s d1 (.val (.pointer (some a1)))) d2 (.val (.pointer (some a2)))) dst3 = true := by exact fun _ _ => rfl) :
    VCO P n all md (⟨some d1, .indexAddr t x i, ty, pos, after, gd⟩ :: ⟨some d2, .fieldAddr t2 (.tmp d1) f, ty2, pos2, after2, gd2⟩ :: ⟨dst3, .load t3 (.tmp d2), ty3, pos3, after3, gd3⟩ :: r) s H K := by
  obtain ⟨ad, rfl, hc⟩ := hr _ _ hv
  refine vco_index htb ht hx hi h0 hm ?_ hg nb
  refine vco_hfld (ad := ad.add (j.toNat * sz)) htb ht2 hf (put_val_same _ _ _) ?_ (hg2 _) (nb2 _)
  refine vco_hload (ad := (ad.add (j.toNat * sz)).add o) htb ht3 h1 (put_val_same _ _ _) (by rw [add_add]; exact hc) ?_ (hg3 _ _) (nb3 _ _)
  exact hk _ _
/-- 'x[i].f' of a struct. -/
theorem vco_atf_st {t t2 t3 : TypeId} {x i : Operand} {A : Option Addr} {m c d1 d2 f o z : Nat} {dst3 : Option Nat} {ty2 ty3 : TypeId} {pos2 pos3 : String} {after2 after3 : Array Edge} {gd2 gd3 : Option (Nat × Bool)} {k : IntKind} {j : Int} {e sz sz2 sz3 : Nat} {ps offs : List (Nat × Nat)} {xs vs : List Value}
    (htb : TbOk P tb) (ht : tb[t]? = some (.sl e sz)) (ht2 : tb[t2]? = some (.st sz2 ps)) (hf : ps[f]? = some (o, z)) (ht3 : tb[t3]? = some (.st sz3 offs)) (hx : ev s x = some (.slice A m c)) (hi : ev s i = some (.int k j)) (hr : Rd H A xs) (hl : vs.length = sz3) (hp : 0 < sz3) (hv : ∀ (q : Nat) (v : Value), vs[q]? = some v → xs[j.toNat * sz + o + q]? = some v) (h0 : 0 ≤ j) (hm : j < m)
    (hk : ∀ a1 a2 : Addr, VCO P n all md r (putO (put (put s d1 (.val (.pointer (some a1)))) d2 (.val (.pointer (some a2)))) dst3 (.val (.agg vs.toArray))) H K)
    (hg : gdB all s gd = some true := by rfl) (nb : md.nb s (some d1) = true := by rfl)
    (hg2 : ∀ a1 : Addr, gdB all (put s d1 (.val (.pointer (some a1)))) gd2 = some true := by exact fun _ => rfl) (nb2 : ∀ a1 : Addr, md.nb (put s d1 (.val (.pointer (some a1)))) (some d2) = true := by exact fun _ => rfl)
    (hg3 : ∀ a1 a2 : Addr, gdB all (put (put s d1 (.val (.pointer (some a1)))) d2 (.val (.pointer (some a2)))) gd3 = some true := by exact fun _ _ => rfl) (nb3 : ∀ a1 a2 : Addr, md.nb (put (put s d1 (.val (.pointer (some a1)))) d2 (.val (.pointer (some a2)))) dst3 = true := by exact fun _ _ => rfl) :
    VCO P n all md (⟨some d1, .indexAddr t x i, ty, pos, after, gd⟩ :: ⟨some d2, .fieldAddr t2 (.tmp d1) f, ty2, pos2, after2, gd2⟩ :: ⟨dst3, .load t3 (.tmp d2), ty3, pos3, after3, gd3⟩ :: r) s H K := by
  obtain ⟨ad, rfl, hc⟩ := hr _ _ (hv 0 _ (List.getElem?_eq_getElem (by omega)))
  refine vco_index htb ht hx hi h0 hm ?_ hg nb
  refine vco_hfld (ad := ad.add (j.toNat * sz)) htb ht2 hf (put_val_same _ _ _) ?_ (hg2 _) (nb2 _)
  refine vco_hload_st (ad := (ad.add (j.toNat * sz)).add o) (vs := vs) htb ht3 (put_val_same _ _ _) hl (fun q v hq => by
    obtain ⟨ad', h1, h2⟩ := hr _ _ (hv q v hq)
    cases h1
    rw [add_add, add_add, ← Nat.add_assoc]; exact h2) ?_ (hg3 _ _) (nb3 _ _)
  exact hk _ _
end
end Go.Eng
/- Walks over package amortcostkeep2, part 2: Rats, Lists, Program; package amortcostref22: Valid; package amortcostlaw22: kept, solvable. -/
namespace Go.Eng
open Go.Proofs Num Lp
theorem RawV.small {N : Nat} {H : Heap} {q : Rat} {f : Bool} {A1 A2 : Option Addr} {m1 c1 m2 c2 : Nat} (h : RawV H (.agg #[.bool f, .slice A1 m1 c1, .slice A2 m2 c2]) q N) (h1 : m1 ≤ 2) (h2 : m2 ≤ 2) : RawV H (.agg #[.bool f, .slice A1 m1 c1, .slice A2 m2 c2]) q 2 := by
  obtain ⟨f', u, w, l1, l2, e, k1, k2, k3, k4, k5, k6, k7⟩ := h
  have e' := arr3 (vs := [.bool f, .slice A1 m1 c1, .slice A2 m2 c2]) e
  simp only [List.cons.injEq, and_true] at e'
  obtain ⟨e1, e2, e3⟩ := e'
  refine ⟨f', u, w, l1, l2, e, k1, k2, k3, k4, ?_, ?_, k7⟩
  · obtain ⟨A, c, e4, _⟩ := k1
    rw [e4] at e2
    cases e2; exact h1
  · obtain ⟨A, c, e4, _⟩ := k2
    rw [e4] at e3
    cases e3; exact h2
theorem SlV.seg3 {N : Nat} {H : Heap} {xs : List Value} {l : List Rat} (h : Els (RatP N H) 3 xs l) {i : Nat} {q : Rat} (hq : l[i]? = some q) : ∃ f A1 m1 c1 A2 m2 c2, seg xs i 3 = [.bool f, .slice A1 m1 c1, .slice A2 m2 c2] ∧ RawV H (.agg #[.bool f, .slice A1 m1 c1, .slice A2 m2 c2]) q N ∧ ∀ (j : Nat) (u : Value), [.bool f, .slice A1 m1 c1, .slice A2 m2 c2][j]? = some u → xs[i * 3 + j]? = some u := by
  have h1 := h.at_ i q hq
  obtain ⟨f, A, m, c, A', m', c', e⟩ := RatP.cells h1
  refine ⟨f, A, m, c, A', m', c', e, ?_, fun j u hu => seg_get (by rw [e]; exact hu)⟩
  have h2 : RawV H (.agg (seg xs i 3).toArray) q N := h1
  rwa [e] at h2
/-- Lists of numbers in cells. -/
def Lsts (N : Nat) (H : Heap) (vs : List Value) (ls : List (List Rat)) : Prop := vs.length = ls.length ∧ ∀ (i : Nat) (v : Value) (l : List Rat), vs[i]? = some v → ls[i]? = some l → SlV (RatP N) 3 H v l
theorem row_b {xs : List Value} {k : Nat} {a b c d e : Value} (h : ∀ (j : Nat) (u : Value), [a, b, c, d, e][j]? = some u → xs[k + j]? = some u) : ∀ (q : Nat) (v : Value), [c, d, e][q]? = some v → xs[k + 2 + q]? = some v := fun q v hq => by
  rw [Nat.add_assoc, Nat.add_comm 2 q]; exact h (q + 2) v hq
theorem SlV.segR {N : Nat} {H : Heap} {xs : List Value} {l : List (List Rat × Int × Rat)} (h : Els (RowP N H) 5 xs l) {i : Nat} {r : List Rat × Int × Rat} (hq : l[i]? = some r) : ∃ A0 c0 f A1 m1 c1 A2 m2 c2, seg xs i 5 = [.slice A0 r.1.length c0, .int .i64 r.2.1, .bool f, .slice A1 m1 c1, .slice A2 m2 c2] ∧ SlV (RatP N) 3 H (.slice A0 r.1.length c0) r.1 ∧ RawV H (.agg #[.bool f, .slice A1 m1 c1, .slice A2 m2 c2]) r.2.2 N ∧ ∀ (j : Nat) (u : Value), [.slice A0 r.1.length c0, .int .i64 r.2.1, .bool f, .slice A1 m1 c1, .slice A2 m2 c2][j]? = some u → xs[i * 5 + j]? = some u := by
  have h1 := h.at_ i r hq
  obtain ⟨A0, c0, k, f, A1, m1, c1, A2, m2, c2, e, hk⟩ := h1.cells
  subst hk
  have h2 := h1
  rw [e] at h2
  obtain ⟨c', f', u', w', e', h3, h4⟩ := id h2
  simp only [List.cons.injEq, and_true, true_and] at e'
  obtain ⟨rfl, e1, rfl, rfl⟩ := e'
  exact ⟨A0, c0, f, A1, m1, c1, A2, m2, c2, e, h3, h2.bound, fun j u hu => seg_get (by rw [e]; exact hu)⟩
/-- A program that is small. -/
structure PSml (H : Heap) (v : Value) (p : Prg) (n m : Nat) : Prop where
  prog : ProgV 2 H v p
  cols : p.free.length ≤ n
  rows : p.rows.length ≤ m
  row : ∀ (i : Nat) (r : List Rat × Int × Rat), p.rows[i]? = some r → r.1.length ≤ n
theorem kRats_ok {H : Heap} {v : Value} {l : List Rat} {N n : Nat} (hv : SlV (RatP N) 3 H v l) (hn : n ≤ 1000) :
  Fn Tryz.prog 26 #[v, .int .i64 (n : Int)] H (fun v' H' => H' = H ∧ ∃ b, v' = .bool b ∧ (b = true → l.length ≤ n ∧ SlV (RatP 2) 3 H v l)) := by
 obtain ⟨A, c, xs, rfl, hlc, hr, hx⟩ := hv; refine fn_intro (args := [_, _]) Tryz.func26 rfl rfl Tryz.ntmps26 rfl rfl fun w0 => ?_; refine vc_keep [0, 1] rfl ?_; refine vc_sr ?_; refine vr 1 ?_; refine vco_k [0, 1] ?_; refine vc_seq ?_; refine vc_sr ?_; refine vr 4 ?_; refine vco_k [0, 9] ?_; refine vc_cond rfl (fun hb => ?_) (fun hb => ?_)
 ·
  skip
  refine vc_sr ?_; refine vr 1 ?_; refine vco_k [4] ?_; refine vc_ret ⟨.inr rfl, _, .tmp rfl (.nil), ?_⟩; exact ⟨rfl, false, rfl, fun h => by cases h⟩
 ·
  have hb : l.length ≤ n := by simpa using hb
  refine vc_skip ?_; refine vc_keep [0] rfl ?_; refine vc_seq ?_; refine vc_sr ?_; refine vr 3 ?_; refine vco_k [0, 11, 12] ?_; refine vc_block ?_; refine vc_loop1 (fun (i : Nat) => l.length - i) (fun (i : Nat) => put (put (put (emp) 0 (.val (.slice A l.length c))) 11 (.val (.int .i64 (l.length : Int)))) 12 (.val (.int .i64 (i : Int)))) (fun (i : Nat) H' => H' = H ∧ (∀ (k : Nat) (q : Rat), k < i → l[k]? = some q → RatP 2 H (seg xs k 3) q) ∧ i ≤ l.length) 0 (⟨rfl, (fun k r h => by omega), Nat.zero_le _⟩) sub_auto ?_; rintro i H1 ⟨e1, hal, hi⟩; rw [e1]; refine vc_sr ?_; refine vr 1 ?_; refine vco_k [0, 11, 12, 13] ?_; refine vc_seq ?_; refine vc_cond rfl (fun hb => ?_) (fun hb => ?_)
  ·
   have him : i < l.length := by simpa using hb
   obtain ⟨q, hq⟩ : ∃ q, l[i]? = some q := ⟨_, List.getElem?_eq_getElem him⟩; obtain ⟨f, A1, m1, c1, A2, m2, c2, hsg, hraw, hqx⟩ := SlV.seg3 hx hq; refine vc_skip ?_; refine vc_keep [0, 11, 12] rfl ?_; refine vc_seq ?_; refine vc_block ?_; refine vc_sr ?_; refine vr 2 ?_; refine vco_k [0, 5, 11, 12] ?_; refine vc_sr ?_; refine vr 2 ?_; refine vco_at_st tbOk rfl rfl rfl rfl (hr) rfl (by decide) (hqx) (by omega) (by omega) fun _ => ?_; refine vco_call rfl rfl (kRat_ok) ?_; rintro v2 H2 ⟨e2, rfl⟩; rw [e2]; refine vr 1 ?_; refine vco_k [0, 11, 12, 20] ?_; refine vc_cond rfl (fun hb => ?_) (fun hb => ?_)
   ·
    skip
    refine vc_sr ?_; refine vr 1 ?_; refine vco_k [4] ?_; refine vc_ret ⟨.inr rfl, _, .tmp rfl (.nil), ?_⟩; exact ⟨rfl, false, rfl, fun h => by cases h⟩
   ·
    have hs2 : m1 ≤ 2 ∧ m2 ≤ 2 := by simpa using hb
    refine vc_skip ?_; refine vc_keep [0, 11, 12] rfl ?_; refine vc_region rfl ?_; refine vco_add rfl rfl ⟨by omega, by omega⟩ ?_; refine vr 1 ?_; refine vco_end ?_; exact ⟨i + 1, by omega, sub_auto, rfl, (fun k q9 hk hq9 => by by_cases h9 : k < i; exact hal k q9 h9 hq9; (obtain rfl : k = i := by omega); rw [hq] at hq9; cases hq9; show RawV _ _ _ _; rw [hsg]; exact hraw.small hs2.1 hs2.2), by omega⟩
  ·
   have hb : l.length ≤ i := by simpa using hb
   refine vc_exit ?_; refine vc_keep [] rfl ?_; refine vc_sr ?_; refine vr 1 ?_; refine vco_k [4] ?_; refine vc_ret ⟨.inr rfl, _, .tmp rfl (.nil), ?_⟩; exact ⟨rfl, true, rfl, fun _ => ⟨by omega, A, c, xs, rfl, hlc, hr, hx.len, fun k q hq => hal k q (by have h9 := (List.getElem?_eq_some_iff.1 hq).1; omega) hq⟩⟩
theorem kLists_ok {H : Heap} {A : Option Addr} {k c : Nat} {vs : List Value} {ls : List (List Rat)} {N m n : Nat} (hr : Rd H A vs) (hk : k = ls.length) (hv : Lsts N H vs ls) (hn : n ≤ 1000) (hm : m ≤ 1000) :
  Fn Tryz.prog 27 #[.slice A k c, .int .i64 (m : Int), .int .i64 (n : Int)] H (fun v' H' => H' = H ∧ ∃ b, v' = .bool b ∧ (b = true → Lsts 2 H vs ls ∧ (∀ l, l ∈ ls → l.length ≤ n) ∧ ls.length ≤ m)) := by
 refine fn_intro (args := [_, _, _]) Tryz.func27 rfl rfl Tryz.ntmps27 rfl rfl fun w0 => ?_; refine vc_keep [0, 1, 2] rfl ?_; refine vc_sr ?_; refine vr 1 ?_; refine vco_k [0, 1, 2] ?_; refine vc_seq ?_; refine vc_sr ?_; refine vr 4 ?_; refine vco_k [0, 2, 11] ?_; refine vc_cond rfl (fun hb => ?_) (fun hb => ?_)
 ·
  skip
  refine vc_sr ?_; refine vr 1 ?_; refine vco_k [6] ?_; refine vc_ret ⟨.inr rfl, _, .tmp rfl (.nil), ?_⟩; exact ⟨rfl, false, rfl, fun h => by cases h⟩
 ·
  have hb : k ≤ m := by simpa using hb
  refine vc_skip ?_; refine vc_keep [0, 2] rfl ?_; refine vc_seq ?_; refine vc_sr ?_; refine vr 3 ?_; refine vco_k [0, 2, 13, 14] ?_; refine vc_block ?_; refine vc_loop1 (fun (i : Nat) => k - i) (fun (i : Nat) => put (put (put (put (emp) 0 (.val (.slice A k c))) 2 (.val (.int .i64 (n : Int)))) 13 (.val (.int .i64 (k : Int)))) 14 (.val (.int .i64 (i : Int)))) (fun (i : Nat) H' => H' = H ∧ (∀ (j : Nat) (v : Value) (l : List Rat), j < i → vs[j]? = some v → ls[j]? = some l → l.length ≤ n ∧ SlV (RatP 2) 3 H v l) ∧ i ≤ k) 0 (⟨rfl, (fun j v l h => by omega), Nat.zero_le _⟩) sub_auto ?_; rintro i H1 ⟨e1, hal, hi⟩; rw [e1]; refine vc_sr ?_; refine vr 1 ?_; refine vco_k [0, 2, 13, 14, 15] ?_; refine vc_seq ?_; refine vc_cond rfl (fun hb => ?_) (fun hb => ?_)
  ·
   have him : i < k := by simpa using hb
   obtain ⟨l, hle⟩ : ∃ l, ls[i]? = some l := ⟨_, List.getElem?_eq_getElem (by omega)⟩; obtain ⟨v, hve⟩ : ∃ v, vs[i]? = some v := ⟨_, List.getElem?_eq_getElem (by rw [hv.1]; omega)⟩; have hsl := hv.2 i v l hve hle; obtain ⟨A0, c0, xs0, rfl, h0⟩ := id hsl; refine vc_skip ?_; refine vc_keep [0, 2, 13, 14] rfl ?_; refine vc_seq ?_; refine vc_block ?_; refine vc_sr ?_; refine vr 2 ?_; refine vco_k [0, 2, 7, 13, 14] ?_; refine vc_sr ?_; refine vr 2 ?_; refine vco_at tbOk rfl rfl rfl rfl rfl (hr) (hve) (by omega) (by omega) fun _ => ?_; refine vr 1 ?_; refine vco_call rfl rfl (kRats_ok hsl hn) ?_; rintro v2 H2 ⟨e2, b2, rfl, hb2⟩; rw [e2]; refine vr 1 ?_; refine vco_k [0, 2, 13, 14, 23] ?_; refine vc_cond rfl (fun hb => ?_) (fun hb => ?_)
   ·
    skip
    refine vc_sr ?_; refine vr 1 ?_; refine vco_k [6] ?_; refine vc_ret ⟨.inr rfl, _, .tmp rfl (.nil), ?_⟩; exact ⟨rfl, false, rfl, fun h => by cases h⟩
   ·
    have hbt : b2 = true := by simpa using hb
    refine vc_skip ?_; refine vc_keep [0, 2, 13, 14] rfl ?_; refine vc_region rfl ?_; refine vco_add rfl rfl ⟨by omega, by omega⟩ ?_; refine vr 1 ?_; refine vco_end ?_; exact ⟨i + 1, by omega, sub_auto, rfl, (fun j v9 l9 hj hv9 hl9 => by by_cases h9 : j < i; exact hal j v9 l9 h9 hv9 hl9; (obtain rfl : j = i := by omega); rw [hve] at hv9; rw [hle] at hl9; cases hv9; cases hl9; exact hb2 hbt), by omega⟩
  ·
   have hb : k ≤ i := by simpa using hb
   refine vc_exit ?_; refine vc_keep [] rfl ?_; refine vc_sr ?_; refine vr 1 ?_; refine vco_k [6] ?_; refine vc_ret ⟨.inr rfl, _, .tmp rfl (.nil), ?_⟩
   exact ⟨rfl, true, rfl, fun _ => ⟨⟨hv.1, fun j v l h1 h2 => (hal j v l (by have h9 := (List.getElem?_eq_some_iff.1 h2).1; omega) h1 h2).2⟩, (fun l hl => by
    obtain ⟨j, hj⟩ := List.getElem?_of_mem hl; have h9 := (List.getElem?_eq_some_iff.1 hj).1
    exact (hal j _ l (by omega) (List.getElem?_eq_getElem (by rw [hv.1]; omega)) hj).1), by omega⟩⟩
theorem kProgram_ok {H : Heap} {v : Value} {p : Prg} {N n m : Nat} (hp : ProgV N H v p) (hn : n ≤ 1000) (hm : m ≤ 1000) :
  Fn Tryz.prog 82 #[v, .int .i64 (n : Int), .int .i64 (m : Int)] H (fun v' H' => H' = H ∧ ∃ b, v' = .bool b ∧ (b = true → PSml H v p n m)) := by
 obtain ⟨fv, rv0, rfl, hfv, hrv0⟩ := id hp
 obtain ⟨Af, cf, xf, rfl, hrF, hxF⟩ := hfv.one
 obtain ⟨Ar, cr, xr, rfl, hcr, hrR, hxR⟩ := hrv0; refine fn_intro (args := [_, _, _]) Tryz.func82 rfl rfl Tryz.ntmps82 rfl rfl fun w0 => ?_; refine vc_keep [0, 1, 2] rfl ?_; refine vc_sr ?_; refine vco_box rfl rfl ?_; refine vr 1 ?_; refine vco_k [1, 2, 3] ?_; refine vc_seq ?_
 by_cases h1 : (n : Int) < (p.free.length : Int)
 ·
  skip
  refine vc_sr ?_; refine vr 4 ?_; refine vco_cmp true rfl rfl (cgt_t h1) ?_; refine vr 7 ?_; refine vco_k [1, 3, 19] ?_; refine vc_cond_t rfl ?_; refine vc_sr ?_; refine vr 1 ?_; refine vco_k [6] ?_; refine vc_ret ⟨.inr rfl, _, .tmp rfl (.nil), ?_⟩; exact ⟨rfl, false, rfl, fun h => by cases h⟩
 ·
  skip
  by_cases h2 : (m : Int) < (p.rows.length : Int)
  ·
   skip
   refine vc_sr ?_; refine vr 4 ?_; refine vco_cmp false rfl rfl (cgt_f (by omega)) ?_; refine vr 5 ?_; refine vco_cmp true rfl rfl (cgt_t h2) ?_; refine vr 1 ?_; refine vco_k [1, 3, 19] ?_; refine vc_cond_t rfl ?_; refine vc_sr ?_; refine vr 1 ?_; refine vco_k [6] ?_; refine vc_ret ⟨.inr rfl, _, .tmp rfl (.nil), ?_⟩; exact ⟨rfl, false, rfl, fun h => by cases h⟩
  ·
   skip
   refine vc_sr ?_; refine vr 4 ?_; refine vco_cmp false rfl rfl (cgt_f (by omega)) ?_; refine vr 5 ?_; refine vco_cmp false rfl rfl (cgt_f (by omega)) ?_; refine vr 1 ?_; refine vco_k [1, 3, 19] ?_; refine vc_cond_f rfl ?_; refine vc_skip ?_; refine vc_keep [1, 3] rfl ?_; refine vc_seq ?_; refine vc_sr ?_; refine vr 4 ?_; refine vco_k [1, 3, 22, 23] ?_; refine vc_block ?_; refine vc_loop1 (fun (i : Nat) => p.rows.length - i) (fun (i : Nat) => put (put (put (put (emp) 1 (.val (.int .i64 (n : Int)))) 3 (.box [.slice Af p.free.length cf, .slice Ar p.rows.length cr])) 22 (.val (.int .i64 (p.rows.length : Int)))) 23 (.val (.int .i64 (i : Int)))) (fun (i : Nat) H' => H' = H ∧ (∀ (k : Nat) (r : List Rat × Int × Rat), k < i → p.rows[k]? = some r → r.1.length ≤ n ∧ RowP 2 H (seg xr k 5) r) ∧ i ≤ p.rows.length) 0 (⟨rfl, (fun k r h => by omega), Nat.zero_le _⟩) sub_auto ?_; rintro i H1 ⟨e1, hal, hi⟩; rw [e1]; refine vc_sr ?_; refine vr 1 ?_; refine vco_k [1, 3, 22, 23, 24] ?_; refine vc_seq ?_; refine vc_cond rfl (fun hb => ?_) (fun hb => ?_)
   ·
    have him : i < p.rows.length := by simpa using hb
    obtain ⟨r, hr⟩ : ∃ r, p.rows[i]? = some r := ⟨_, List.getElem?_eq_getElem him⟩; obtain ⟨A0, c0, f, A1, m1, c1, A2, m2, c2, hsg, hsl, hraw, hrx⟩ := SlV.segR hxR hr; refine vc_skip ?_; refine vc_keep [1, 3, 22, 23] rfl ?_; refine vc_seq ?_; refine vc_block ?_; refine vc_sr ?_; refine vr 2 ?_; refine vco_k [1, 3, 7, 22, 23] ?_; refine vc_sr ?_; refine vr 3 ?_; refine vco_atf tbOk rfl rfl rfl rfl rfl rfl rfl (hrR) (hrx 0 _ rfl) (by omega) (by omega) fun _ _ => ?_; refine vr 1 ?_; refine vco_call rfl rfl (kRats_ok hsl hn) ?_; rintro v2 H2 ⟨e2, b2, rfl, hb2⟩; rw [e2]
    cases b2
    ·
     skip
     refine vr 11 ?_; refine vco_k [1, 3, 22, 23, 44] ?_; refine vc_cond_t rfl ?_; refine vc_sr ?_; refine vr 1 ?_; refine vco_k [6] ?_; refine vc_ret ⟨.inr rfl, _, .tmp rfl (.nil), ?_⟩; exact ⟨rfl, false, rfl, fun h => by cases h⟩
    ·
     skip
     refine vr 5 ?_; refine vco_atf_st tbOk rfl rfl rfl rfl rfl rfl (hrR) rfl (by decide) (row_b hrx) (by omega) (by omega) fun _ _ => ?_; refine vco_call rfl rfl (kRat_ok) ?_; rintro v3 H3 ⟨e3, rfl⟩; rw [e3]; refine vr 2 ?_; refine vco_k [1, 3, 22, 23, 44] ?_; refine vc_cond rfl (fun hb => ?_) (fun hb => ?_)
     ·
      skip
      refine vc_sr ?_; refine vr 1 ?_; refine vco_k [6] ?_; refine vc_ret ⟨.inr rfl, _, .tmp rfl (.nil), ?_⟩; exact ⟨rfl, false, rfl, fun h => by cases h⟩
     ·
      have h3 : m1 ≤ 2 ∧ m2 ≤ 2 := by simpa using hb
      refine vc_skip ?_; refine vc_keep [1, 3, 22, 23] rfl ?_; refine vc_region rfl ?_; refine vco_add rfl rfl ⟨by omega, by omega⟩ ?_; refine vr 1 ?_; refine vco_end ?_; exact ⟨i + 1, by omega, sub_auto, rfl, (fun k r9 hk hr9 => by by_cases h9 : k < i; exact hal k r9 h9 hr9; (obtain rfl : k = i := by omega); rw [hr] at hr9; cases hr9; exact ⟨(hb2 rfl).1, _, _, _, _, hsg, (hb2 rfl).2, hraw.small h3.1 h3.2⟩), by omega⟩
   ·
    have hb : p.rows.length ≤ i := by simpa using hb
    refine vc_exit ?_; refine vc_keep [] rfl ?_; refine vc_sr ?_; refine vr 1 ?_; refine vco_k [6] ?_; refine vc_ret ⟨.inr rfl, _, .tmp rfl (.nil), ?_⟩; exact ⟨rfl, true, rfl, fun _ => ⟨⟨_, _, rfl, hfv, Ar, cr, xr, rfl, hcr, hrR, hxR.len, fun k r hr => (hal k r (by have h9 := (List.getElem?_eq_some_iff.1 hr).1; omega) hr).2⟩, by omega, by omega, fun k r hr => (hal k r (by have h9 := (List.getElem?_eq_some_iff.1 hr).1; omega) hr).1⟩⟩
end Go.Eng
/- General facts on numbers in memory, and what Minimize gives for small programs. -/
namespace Go.Eng
open Go.Proofs Num Lp
theorem SlV.rsize {N : Nat} {H : Heap} {v : Value} {l : List Rat} (h : SlV (RatP N) 3 H v l) : ∀ q, q ∈ l → szQ q ≤ N + 2 := fun q hq => by
  obtain ⟨A, cc, xs, _, _, _, h4⟩ := h
  obtain ⟨k, hk⟩ := List.getElem?_of_mem hq
  exact RawV.size (h4.at_ k q hk)
theorem fn_mem {l : List Rat} {j : Nat} (h : j < l.length) : fn l j ∈ l := by
  rw [fn_get (List.getElem?_eq_getElem h)]; exact List.getElem_mem h
theorem one_rat (f : Bool) (A A' : Option Addr) (k c k' c' : Nat) : ∀ u, u ∈ [Value.bool f, .slice A k c, .slice A' k' c'] → u.oneCell' = true := fun u hu => by
  simp only [List.mem_cons, List.not_mem_nil, or_false] at hu
  rcases hu with rfl | rfl | rfl <;> rfl
theorem els_cons {α : Type} {P : List Value → α → Prop} {sz : Nat} {vs xs : List Value} {a : α} {l : List α} (h : P vs a) (hl : vs.length = sz) (k : Els P sz xs l) : Els P sz (vs ++ xs) (a :: l) := (els_one h hl).append k
theorem SlV.can_rat {H : Heap} {v : Value} {l : List Rat} {N : Nat} (h : SlV CanP 3 H v l) (hs : ∀ q, q ∈ l → szQ q ≤ N) : SlV (RatP N) 3 H v l := by
  obtain ⟨A, c, xs, h1, h2, h3, h4⟩ := h
  exact ⟨A, c, xs, h1, h2, h3, h4.len, fun i a ha => CanP.rat (h4.at_ i a ha) (hs a (List.mem_of_getElem? ha))⟩
theorem SlV.mono {α : Type} {P P' : Heap → List Value → α → Prop} {sz : Nat} {H : Heap} {v : Value} {l : List α} (h : SlV P sz H v l) (hp : ∀ vs a, P H vs a → P' H vs a) : SlV P' sz H v l := by
  obtain ⟨A, c, xs, h1, h2, h3, h4⟩ := h
  exact ⟨A, c, xs, h1, h2, h3, h4.mono hp⟩
theorem RatP.mono {N M : Nat} {H : Heap} {vs : List Value} {q : Rat} (h : RatP N H vs q) (hl : N ≤ M) : RatP M H vs q := RawV.mono h hl
theorem ProgV.mono {N M : Nat} {H : Heap} {v : Value} {p : Prg} (h : ProgV N H v p) (hl : N ≤ M) : ProgV M H v p := by
  obtain ⟨fv, rv, h1, h2, h3⟩ := h
  exact ⟨fv, rv, h1, h2, h3.mono fun vs r ⟨c, f, u, w, k1, k2, k3⟩ => ⟨c, f, u, w, k1, k2.mono fun _ _ h => h.mono hl, k3.mono hl⟩⟩
theorem cmpQ_self (q : Rat) : cmpQ q q = 0 := by unfold cmpQ; simp
theorem wts_len {k : Nat} : ∀ {l : List Rat}, (∀ q, q ∈ l → Tab.wt q ≤ k) → Tab.wts l ≤ l.length * k
  | [], _ => Nat.zero_le _
  | q :: l, h => by
    have h1 := h q (List.mem_cons_self ..)
    have h2 := wts_len (l := l) fun r hr => h r (List.mem_cons_of_mem _ hr)
    simp only [Tab.wts, List.length_cons, Nat.add_mul]; omega
theorem rawV_zero {H : Heap} {N : Nat} : RawV H (.agg #[.bool false, .slice none 0 0, .slice none 0 0]) 0 N :=
  ⟨false, _, _, [], [], rfl, ⟨none, 0, rfl, Nat.le_refl _, Rd.nil _ _⟩, ⟨none, 0, rfl, Nat.le_refl _, Rd.nil _ _⟩, (fun x h => by cases h), (fun x h => by cases h), Nat.zero_le _, Nat.zero_le _, by decide⟩
/-- The cells of a number. -/
structure RC where
  f : Bool
  A1 : Option Addr
  m1 : Nat
  c1 : Nat
  A2 : Option Addr
  m2 : Nat
  c2 : Nat
abbrev RC.v (t : RC) : Value := .agg #[.bool t.f, .slice t.A1 t.m1 t.c1, .slice t.A2 t.m2 t.c2]
theorem CanV.rc {H : Heap} {v : Value} {q : Rat} (h : CanV H v q) : ∃ t : RC, v = t.v := by
  obtain ⟨u, w, rfl, hu, hw⟩ := h
  obtain ⟨A1, c1, rfl, _⟩ := id hu
  obtain ⟨A2, c2, rfl, _⟩ := id hw
  exact ⟨⟨_, A1, _, c1, A2, _, c2⟩, rfl⟩
/-- What a function gives that returns a number. -/
def RetR (H : Heap) (q : Rat) (v : Value) (H' : Heap) : Prop := Heap.le H H' ∧ ∃ t : RC, v = t.v ∧ CanV H' t.v q
theorem Fn.rc {P : Program} {f : FuncId} {args : Array Value} {H : Heap} {q : Rat} (h : Fn P f args H (RetQ H q)) : Fn P f args H (RetR H q) := h.mono fun v H' ⟨h1, h2⟩ => by
  obtain ⟨t, rfl⟩ := h2.rc
  exact ⟨h1, t, rfl, h2⟩
theorem ProgV.forms {N : Nat} {H : Heap} {v : Value} {p : Prg} (h : ProgV N H v p) : ∃ Af cf Ar cr, v = .agg #[.slice Af p.free.length cf, .slice Ar p.rows.length cr] := by
  obtain ⟨fv, rv, rfl, ⟨Af, cf, _, rfl, _⟩, Ar, cr, _, rfl, _⟩ := h
  exact ⟨Af, cf, Ar, cr, rfl⟩
end Go.Eng
/- A slice that grows by append, over a heap that stays. -/
namespace Go.Eng
open Go.Proofs Num Lp
structure Gro {α : Type} (P : Heap → List Value → α → Prop) (e sz : Nat) (Hb H : Heap) (v : Value) (l : List α) (xs : List Value) : Prop where
  own : Own H v e sz l.length xs
  els : Els (P (rem H (blk v))) sz xs l
  base : Heap.le Hb (rem H (blk v))
section
variable {α : Type} {P : Heap → List Value → α → Prop} {e sz : Nat} {Hb H H' : Heap} {v v' : Value} {l : List α} {xs : List Value}
theorem Gro.le (h : Gro P e sz Hb H v l xs) : Heap.le Hb H := h.base.trans (rem_le _ _)
theorem Gro.sl (h : Gro P e sz Hb H v l xs) (up : Up P) : SlV P sz H v l := OwnS.sl ⟨xs, h.own, h.els.mono fun vs a => up _ _ vs a (rem_le _ _)⟩
theorem blk_nil : blk (.slice none 0 0) = [] := rfl
theorem gro_nil (H : Heap) : Gro P e sz H H (.slice none 0 0) [] [] := ⟨own_nil H e sz, els_nil, by rw [blk_nil, rem_nil]; exact .refl _⟩
theorem Gro.blkne (h : Gro P e sz Hb H v l xs) : ∀ q, q ∈ blk v → H q ≠ none := fun q hq => by
  obtain ⟨en, he⟩ := h.own.block (blk_mem.1 hq)
  rw [he]; simp
/-- Behind what leaves the slice alone. -/
theorem Gro.step (h : Gro P e sz Hb H v l xs) (up : Up P) (hs : ∀ q, q ∈ blk v → H' q = H q) (hl : Heap.le (rem H (blk v)) (rem H' (blk v))) : Gro P e sz Hb H' v l xs :=
  ⟨h.own.same fun q hq => hs q (blk_mem.2 hq), h.els.mono fun vs a => up _ _ vs a hl, h.base.trans hl⟩
theorem Gro.framed (h : Gro P e sz Hb H v l xs) (up : Up P) {Post : Value → Heap → Prop} {u : Value} (hf : Framed (blk v) Post H u H') (hl : ∀ v' K, Post v' K → Heap.le (rem H (blk v)) K) : Gro P e sz Hb H' v l xs := h.step up hf.same (hl _ _ hf.post)
theorem Gro.ins (h : Gro P e sz Hb H v l xs) (up : Up P) {g : Nat} (en : Ent) (hg : H g = none) : Gro P e sz Hb (ins H g en) v l xs := by
  have hn : ¬ g ∈ blk v := fun hm => h.blkne g hm hg
  refine h.step up (fun q hq => ins_other _ _ fun e => hn (e ▸ hq)) ?_
  rw [rem_ins_out _ hn]
  exact Heap.le_ins _ (by rw [rem_out hn]; exact hg)
/-- The call of a function that needs the heap below the slice alone. -/
theorem Gro.call (h : Gro P e sz Hb H v l xs) {Q : Program} {f : FuncId} {args : Array Value} {Post : Value → Heap → Prop} (hc : Fn Q f args (rem H (blk v)) Post) : Fn Q f args H (Framed (blk v) Post H) := Fn.frame h.blkne hc
theorem Gro.append (h : Gro P e sz Hb H v l xs) (up : Up P) {m : Nat} {ys : List Value} {k : List α} (hm : m = l.length + k.length) (ha : App H v e sz m (xs ++ ys) v' H') (hy : Els (P (rem H (blk v))) sz ys k) : Gro P e sz Hb H' v' (l ++ k) (xs ++ ys) := by
  have hl : Heap.le (rem H (blk v)) (rem H' (blk v')) := fun q en hq => by
    by_cases hm : q ∈ blk v
    · rw [rem_in hm] at hq; cases hq
    · rw [rem_out hm] at hq
      have h1 := ha.same q en hq fun e => hm (blk_mem.2 e)
      have h2 : ¬ q ∈ blk v' := fun h2 => by
        have h3 := blk_mem.1 h2
        rcases ha.at_ with h4 | ⟨g, h4, h5⟩
        · exact hm (blk_mem.2 (h4 ▸ h3))
        · rw [h4] at h3; cases h3; rw [h5] at hq; cases hq
      exact ⟨en, by rw [rem_out h2]; exact h1, .refl _⟩
  refine ⟨by rw [List.length_append, ← hm]; exact ha.own, ?_, h.base.trans hl⟩
  exact (h.els.mono fun vs a => up _ _ vs a hl).append (hy.mono fun vs a => up _ _ vs a hl)
theorem Gro.form (h : Gro P e sz Hb H v l xs) : ∃ A c, v = .slice A l.length c := h.own.form
end
theorem Gro.rebase {α : Type} {P : Heap → List Value → α → Prop} {e sz : Nat} {Hb H : Heap} {v : Value} {l : List α} {xs : List Value} (h : Gro P e sz Hb H v l xs) : Gro P e sz (rem H (blk v)) H v l xs := ⟨h.own, h.els, .refl _⟩
theorem Gro.down {α : Type} {P : Heap → List Value → α → Prop} {e sz : Nat} {Hb Hc H : Heap} {v : Value} {l : List α} {xs : List Value} (h : Gro P e sz Hb H v l xs) (hl : Heap.le Hc Hb) : Gro P e sz Hc H v l xs := ⟨h.own, h.els, hl.trans h.base⟩
theorem one_row (A0 : Option Addr) (k0 c0 : Nat) (z : Int) (f : Bool) (A A' : Option Addr) (k c k' c' : Nat) : ∀ u, u ∈ [Value.slice A0 k0 c0, .int .i64 z, .bool f, .slice A k c, .slice A' k' c'] → u.oneCell' = true := fun u hu => by
  simp only [List.mem_cons, List.not_mem_nil, or_false] at hu
  rcases hu with rfl | rfl | rfl | rfl | rfl <;> rfl
theorem tms {α β : Type} {f : α → β} {l : List α} {k : Nat} {z : α} (h : l[k]? = some z) : (l.take (k + 1)).map f = (l.take k).map f ++ [f z] := by
  rw [List.take_add_one, h, List.map_append]; rfl
theorem CanV.form {H : Heap} {v : Value} {q : Rat} (h : CanV H v q) : ∃ f A1 m1 c1 A2 m2 c2, v = .agg #[.bool f, .slice A1 m1 c1, .slice A2 m2 c2] := by
  obtain ⟨u, w, rfl, hu, hw⟩ := h
  obtain ⟨A1, c1, rfl, _⟩ := id hu
  obtain ⟨A2, c2, rfl, _⟩ := id hw
  exact ⟨_, _, _, _, _, _, _, rfl⟩
theorem take_snoc {α : Type} {l : List α} {k : Nat} {z : α} (h : l[k]? = some z) : l.take (k + 1) = l.take k ++ [z] := by rw [List.take_add_one, h]; rfl
end Go.Eng
/- From contracts to statements, part 1: the heap of a world; how arguments read. -/
namespace Go.Eng
open Go.Proofs Num Lp Go.RowKit
/-- All that lies in memory, to be read alone. -/
def heapOf (w : World) : Heap := fun g => match w.heap[g]? with | some (.cells c t _) => some ⟨c.toList, c.size, t, false⟩ | _ => none
theorem heapOf_cells {w : World} {g : Nat} {c : Array Value} {t : TypeId} {fz : Nat × Nat} (h : w.heap[g]? = some (.cells c t fz)) : heapOf w g = some ⟨c.toList, c.size, t, false⟩ := by simp [heapOf, h]
theorem heapOf_inv {w : World} {g : Nat} {e : Ent} (h : heapOf w g = some e) : ∃ c t fz, w.heap[g]? = some (.cells c t fz) ∧ e = ⟨c.toList, c.size, t, false⟩ := by
  unfold heapOf at h
  split at h
  · rename_i c t fz hc
    exact ⟨c, t, fz, hc, by simpa using h.symm⟩
  · cases h
theorem heapOf_den (w : World) : Den (heapOf w) w := fun g e h => by
  obtain ⟨c, t, fz, h1, rfl⟩ := heapOf_inv h
  exact ⟨_, h1, c, fz, rfl, rfl, (fun i v hv => by simpa using hv), fun h => by cases h⟩
theorem heapOf_cell {w : World} {a : Addr} {v : Value} (h : w.cell? a = some v) : cell (heapOf w) a = some v := by
  unfold World.cell? at h
  unfold cell
  cases hg : w.heap[a.block]? with
  | none => rw [hg] at h; simp at h
  | some o =>
    cases o with
    | cells c t fz =>
      rw [heapOf_cells hg]
      rw [hg] at h
      simpa using h
    | _ => rw [hg] at h; simp at h
theorem below_of {w w' : World} {H' : Heap} (hle : Heap.le (heapOf w) H') (hd : Den H' w') (hf : Fx (heapOf w) w H' w') : Below w.heap.size w w' := by
  refine ⟨hf.os, hf.tape, hf.output, hf.size, fun k hk => ?_⟩
  cases hg : heapOf w k with
  | none => exact (hf.keep k hk hg).1
  | some e =>
    obtain ⟨c, t, fz, h1, rfl⟩ := heapOf_inv hg
    obtain ⟨e', h2, h3⟩ := hle k _ hg
    obtain ⟨o, h4, c1, fz1, rfl, h5, h6, _⟩ := hd k e' h2
    obtain ⟨c2, h7, h8⟩ := hf.form k c t fz h1
    rw [h4] at h7
    simp only [Option.some.injEq, Obj.cells.injEq] at h7
    obtain ⟨rfl, h9, rfl⟩ := h7
    rw [h4, h1, h9]
    have : c1 = c := by
      apply Array.ext_getElem?
      intro i
      by_cases hi : i < c.size
      · have h10 : e'.xs[i]? = some c[i] := prefix_get h3.2.2.2 (by simp [hi])
        rw [h6 i _ h10]; simp [hi]
      · rw [Array.getElem?_eq_none (by omega), Array.getElem?_eq_none (by omega)]
    rw [this]
/-- A contract as the statements want it. -/
theorem Fn.law {P : Program} {f : FuncId} {args : Array Value} {w : World} (h : Fn P f args (heapOf w) (fun v H' => Heap.le (heapOf w) H' ∧ v = .bool true)) : Calls P f args w fun e w' => e = .returned (.bool true) ∧ Below w.heap.size w w' :=
  (h.run w (heapOf_den w)).mono fun _ _ ⟨v, he, H', ⟨h1, h2⟩, h3, h4⟩ => ⟨by rw [he, h2], below_of h1 h3 h4⟩
/-! ## arguments -/
section
variable {Hy : Type} {enc : TypeId × Value → Hy} {P : Program} {w : World} {spare : Nat → Bool} {held : Bool}
theorem els_snoc {α : Type} {Q : List Value → α → Prop} {sz : Nat} {xs cs : List Value} {l : List α} {b : α} (h : Els Q sz xs l) (hb : Q cs b) (hl : cs.length = sz) : Els Q sz (xs ++ cs) (l ++ [b]) := h.append (els_one hb hl)
theorem rd_snoc {H : Heap} {a : Addr} {xs cs : List Value} (h : Rd H (some a) xs) (k : ∀ i v, cs[i]? = some v → cell H (a.add (xs.length + i)) = some v) : Rd H (some a) (xs ++ cs) := fun i v hv => by
  by_cases hi : i < xs.length
  · rw [List.getElem?_append_left hi] at hv; exact h i v hv
  · rw [List.getElem?_append_right (by omega)] at hv
    have := k _ _ hv
    rw [show xs.length + (i - xs.length) = i by omega] at this
    exact ⟨a, rfl, this⟩
/-- A slice reads as a list, where its elements read. -/
theorem trod_slV {α : Type} {Q : Heap → List Value → α → Prop} {t e sz : Nat} (ht : P.underlying t = some (.slice e)) (hc : P.cellsOf e = sz) (hp : 0 < sz) (hq : ∀ n cs x, cs.length = sz → DataW.trod enc P w 0 spare held n e cs = some x → ∃ a, Q (heapOf w) cs a)
    {n : Nat} {cs : List Value} {x : DataW Hy × List MemPlace} (h : DataW.trod enc P w 0 spare held n t cs = some x) : ∃ v l, cs = [v] ∧ SlV Q sz (heapOf w) v (l : List α) ∧ l.length ≤ maxLen := by
  rcases Deep.open_slice ht h with ⟨rfl, _⟩ | ⟨a, len, cap, m, n', D, Pl, rfl, _, hl, hm, hmm, _, hx⟩
  · exact ⟨_, [], rfl, slV_nil, Nat.zero_le _⟩
  · have hlm : len ≤ m := by rw [hmm]; split <;> omega
    rw [hc] at hx
    have key : ∀ k, k ≤ len → ∃ xs l, l.length = k ∧ Els (Q (heapOf w)) sz xs (l : List α) ∧ Rd (heapOf w) (some a) xs := by
      intro k
      induction k with
      | zero => exact fun _ => ⟨[], [], rfl, els_nil, Rd.nil _ _⟩
      | succ k ih =>
        intro hk
        obtain ⟨xs, l, h1, h2, h3⟩ := ih (by omega)
        obtain ⟨cs', h4, h5⟩ := hx k (by omega)
        obtain ⟨_, h6, h7⟩ := World.cells?_some h4
        obtain ⟨b, hb⟩ := hq _ _ _ h6 h5
        refine ⟨xs ++ cs', l ++ [b], by simp [h1], els_snoc h2 hb h6, rd_snoc h3 fun i v hv => ?_⟩
        have hi := (List.getElem?_eq_some_iff.1 hv).1
        have h8 := h7 i (by omega)
        rw [hv, add_add] at h8
        rw [h2.len, h1]; exact heapOf_cell h8
    obtain ⟨xs, l, h1, h2, h3⟩ := key len (Nat.le_refl _)
    refine ⟨_, l, rfl, ⟨some a, cap, xs, by rw [h1], by omega, h3, h2⟩, by omega⟩
theorem wf_u32 {z : Int} (h : (Lit.int .u32 z).wf = true) : 0 ≤ z ∧ z < 4294967296 := by
  simp [Lit.wf, IntKind.min, IntKind.max, IntKind.signed, IntKind.bits] at h; omega
/-- A list of limbs. -/
theorem trod_lim {t e : Nat} (ht : P.underlying t = some (.slice e)) (he : P.underlying e = some (.int .u32)) (hc : P.cellsOf e = 1) {n : Nat} {cs : List Value} {x : DataW Hy × List MemPlace} (h : DataW.trod enc P w 0 spare held n t cs = some x) :
    ∃ v l, cs = [v] ∧ LimV (heapOf w) v l ∧ (∀ y, y ∈ l → y < 4294967296) ∧ l.length ≤ maxLen := by
  obtain ⟨v, l, rfl, ⟨A, c, xs, rfl, h2, h3, h4⟩, h5⟩ := trod_slV (α := Nat) (Q := fun _ vs a => vs = [.int .u32 (Int.ofNat a)] ∧ a < 4294967296) ht hc (by decide) (fun n cs x hl h => by
    obtain ⟨z, rfl, _, hz⟩ := DataW.trod_int he h
    obtain ⟨h1, h2⟩ := wf_u32 hz
    exact ⟨z.toNat, by rw [show Int.ofNat z.toNat = z from Int.toNat_of_nonneg h1], by omega⟩) h
  refine ⟨_, l, rfl, ⟨A, c, rfl, h2, ?_⟩, fun y hy => ?_, h5⟩
  · have : xs = U l := by
      apply List.ext_getElem?
      intro i
      by_cases hi : i < l.length
      · obtain ⟨u, h6, h7⟩ := h4.one (List.getElem?_eq_getElem hi)
        rw [h6, U_get (List.getElem?_eq_getElem hi)]
        have := h7.1
        simpa using this
      · rw [List.getElem?_eq_none (by rw [h4.len]; omega), List.getElem?_eq_none (by rw [U_length]; omega)]
    rw [← this]; exact h3
  · obtain ⟨i, hi⟩ := List.getElem?_of_mem hy
    exact (h4.at_ i y hi).2
/-- A rational number. -/
theorem trod_rat {t f0 f1 lu : Nat} {F0 F1 F2 : Field} (ht : P.underlying t = some (.struct #[F0, F1, F2])) (e0 : F0.type = f0 ∧ F0.offset = 0) (e1 : F1.type = f1 ∧ F1.offset = 1) (e2 : F2.type = f1 ∧ F2.offset = 2) (hb : P.underlying f0 = some .bool) (hl : P.underlying f1 = some (.slice lu)) (hu : P.underlying lu = some (.int .u32)) (hc : P.cellsOf lu = 1) (c0 : P.cellsOf f0 = 1) (c1 : P.cellsOf f1 = 1)
    {n : Nat} {cs : List Value} {x : DataW Hy × List MemPlace} (h : DataW.trod enc P w 0 spare held n t cs = some x) (hcs : cs.length = 3) : ∃ q, RatP maxLen (heapOf w) cs q := by
  match cs, hcs with
  | [a, b, c], _ =>
    obtain ⟨y0, y1, y2, m, _, _, h0, h1, h2⟩ := Deep.trod_struct3 ht h
    rw [e0.1, e0.2, c0] at h0
    rw [e1.1, e1.2, c1] at h1
    rw [e2.1, e2.2, c1] at h2
    obtain ⟨f, k0, _⟩ := DataW.trod_bool hb h0
    obtain ⟨u, l1, k1, k2, k3, k4⟩ := trod_lim hl hu hc h1
    obtain ⟨v, l2, k5, k6, k7, k8⟩ := trod_lim hl hu hc h2
    simp at k0 k1 k5
    subst k0 k1 k5
    exact ⟨_, _, _, _, l1, l2, rfl, k2, k6, k3, k7, k4, k8, rfl⟩
end
section
variable {Hy : Type} {enc : TypeId × Value → Hy} {w : World} {spare : Nat → Bool} {held : Bool}
theorem cellsRat : Tryz.prog.cellsOf 31 = 3 := by kernel_rfl
theorem readRat {n : Nat} {cs : List Value} {x : DataW Hy × List MemPlace} (h : DataW.trod enc Tryz.prog w 0 spare held n 31 cs = some x) (hcs : cs.length = 3) : ∃ q, RatP maxLen (heapOf w) cs q :=
  trod_rat Tryz.underlying31 ⟨rfl, rfl⟩ ⟨rfl, rfl⟩ ⟨rfl, rfl⟩ Tryz.underlying4 Tryz.underlying29 Tryz.underlying121 (by kernel_rfl) (by kernel_rfl) (by kernel_rfl) h hcs
theorem readRats {n : Nat} {cs : List Value} {x : DataW Hy × List MemPlace} (h : DataW.trod enc Tryz.prog w 0 spare held n 26 cs = some x) : ∃ v l, cs = [v] ∧ SlV (RatP maxLen) 3 (heapOf w) v l :=
  let ⟨v, l, h1, h2, _⟩ := trod_slV (Q := RatP maxLen) Tryz.underlying26 cellsRat (by decide) (fun _ _ _ hl h => readRat h hl) h
  ⟨v, l, h1, h2⟩
theorem readRow {n : Nat} {cs : List Value} {x : DataW Hy × List MemPlace} (h : DataW.trod enc Tryz.prog w 0 spare held n 78 cs = some x) (hcs : cs.length = 5) : ∃ r, RowP maxLen (heapOf w) cs r := by
  match cs, hcs with
  | [a, b, c, d, e], _ =>
    obtain ⟨y0, y1, y2, m, _, _, h0, h1, h2⟩ := Deep.trod_struct3 Tryz.underlying78 h
    have c0 : Tryz.prog.cellsOf 26 = 1 := by kernel_rfl
    have c1 : Tryz.prog.cellsOf 3 = 1 := by kernel_rfl
    obtain ⟨v, l, k0, k1⟩ := readRats h0
    obtain ⟨z, k2, _⟩ := DataW.trod_int Tryz.underlying3 h1
    simp only [c0, c1, cellsRat] at k0 k2 h2
    simp at k0 k2
    subst k0 k2
    obtain ⟨q, hq⟩ := readRat h2 (by simp)
    have hq' : RawV (heapOf w) (.agg #[c, d, e]) q maxLen := hq
    obtain ⟨f, u, w', l1, l2, e1, hr⟩ := id hq'
    have e2 := arr3 (vs := [c, d, e]) e1
    simp only [List.cons.injEq, and_true] at e2
    obtain ⟨rfl, rfl, rfl⟩ := e2
    exact ⟨(l, z, q), _, _, _, _, rfl, k1, hq'⟩
set_option maxRecDepth 100000 in
theorem readProg {v : Value} {d : DataW Hy} {ps : List MemPlace} {b0 : Nat} {rr : Reach} (hv : Value.okWide Tryz.prog w rr b0 25 v) (h : DataW.Trod enc Tryz.prog w 0 spare held 25 v d ps) : ∃ p, ProgV maxLen (heapOf w) v p := by
  obtain ⟨cs, rfl, hsz⟩ := WideShapes.okWide_struct Tryz.underlying25 hv
  have hC : Tryz.prog.cellsOf 25 = 2 := by kernel_rfl
  obtain ⟨cs, rfl⟩ : ∃ l : List Value, cs = l.toArray := ⟨cs.toList, by simp⟩
  match cs, (show cs.length = 2 by rw [hC] at hsz; simpa using hsz) with
  | [a, b], _ =>
    obtain ⟨fuel, hf⟩ := h
    obtain ⟨y0, y1, m, _, _, h0, h1⟩ := ChangeShapes.trod_struct2 Tryz.underlying25 hf
    have c0 : Tryz.prog.cellsOf 22 = 1 := by kernel_rfl
    have c1 : Tryz.prog.cellsOf 23 = 1 := by kernel_rfl
    have c2 : Tryz.prog.cellsOf 4 = 1 := by kernel_rfl
    have c3 : Tryz.prog.cellsOf 78 = 5 := by kernel_rfl
    obtain ⟨fv, fl, k0, k1, _⟩ := trod_slV (α := Bool) (Q := BoolP) Tryz.underlying22 c2 (by decide) (fun n cs x hl h => by
      obtain ⟨b, rfl, _⟩ := DataW.trod_bool Tryz.underlying4 h
      exact ⟨b, rfl⟩) h0
    obtain ⟨rv, rl, k2, k3, _⟩ := trod_slV (Q := RowP maxLen) Tryz.underlying23 c3 (by decide) (fun n cs x hl h => readRow h hl) h1
    simp only [c0, c1] at k0 k2
    simp [Value.cells] at k0 k2
    subst k0 k2
    exact ⟨⟨fl, rl⟩, _, _, rfl, k1, k3⟩
theorem wf_i8 {z : Int} (h : (Lit.int .i8 z).wf = true) : -128 ≤ z ∧ z ≤ 127 := by
  simp [Lit.wf, IntKind.min, IntKind.max, IntKind.signed, IntKind.bits] at h; omega
end
end Go.Eng
