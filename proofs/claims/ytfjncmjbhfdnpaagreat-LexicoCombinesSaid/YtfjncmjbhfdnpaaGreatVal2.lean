/- Walks over package amortcostref22: Valid. -/
import Derived.Test.YtfjncmjbhfdnpaaGreatA10
set_option linter.unusedVariables false
namespace Go.Eng
open Go.Proofs Num Lp
theorem rValid_ok {H : Heap} {v : Value} {p : Prg} {N : Nat} (hp : ProgV N H v p) :
  Fn Tryz.prog 46 #[v] H (fun v H' => H' = H ∧ ∃ b, v = .bool b ∧ (b = true ↔ p.Ok)) := by
 obtain ⟨fv, rv0, rfl, hfv, hrv0⟩ := hp
 obtain ⟨Af, cf, xf, rfl, hrF, hxF⟩ := hfv.one
 obtain ⟨Ar, cr, xr, rfl, hrR, hxR⟩ := hrv0.row; refine fn_intro (args := [_]) Tryz.func46 rfl rfl Tryz.ntmps46 rfl rfl fun w0 => ?_; refine vc_keep [0] rfl ?_; refine vc_sr ?_; refine vco_box rfl rfl ?_; refine vr 1 ?_; refine vco_k [1] ?_; refine vc_seq ?_
 by_cases h1 : 400 < (p.free.length : Int)
 ·
  skip
  refine vc_sr ?_; refine vr 3 ?_; refine vco_cmp true rfl rfl (cgt_t h1) ?_; refine vr 6 ?_; refine vco_k [1, 14] ?_; refine vc_cond_t rfl ?_; refine vc_sr ?_; refine vr 1 ?_; refine vco_k [2] ?_; refine vc_ret ⟨.inr rfl, _, .tmp rfl (.nil), ?_⟩; exact ⟨rfl, false, rfl, ⟨(fun h => by cases h), (fun h => by have h8 := h.cols; have h9 := h.rows; omega)⟩⟩
 ·
  skip
  by_cases h2 : 800 < (p.rows.length : Int)
  ·
   skip
   refine vc_sr ?_; refine vr 3 ?_; refine vco_cmp false rfl rfl (cgt_f (by omega)) ?_; refine vr 4 ?_; refine vco_cmp true rfl rfl (cgt_t h2) ?_; refine vr 1 ?_; refine vco_k [1, 14] ?_; refine vc_cond_t rfl ?_; refine vc_sr ?_; refine vr 1 ?_; refine vco_k [2] ?_; refine vc_ret ⟨.inr rfl, _, .tmp rfl (.nil), ?_⟩; exact ⟨rfl, false, rfl, ⟨(fun h => by cases h), (fun h => by have h8 := h.cols; have h9 := h.rows; omega)⟩⟩
  ·
   skip
   refine vc_sr ?_; refine vr 3 ?_; refine vco_cmp false rfl rfl (cgt_f (by omega)) ?_; refine vr 4 ?_; refine vco_cmp false rfl rfl (cgt_f (by omega)) ?_; refine vr 1 ?_; refine vco_k [1, 14] ?_; refine vc_cond_f rfl ?_; refine vc_skip ?_; refine vc_keep [1] rfl ?_; refine vc_seq ?_; refine vc_sr ?_; refine vr 4 ?_; refine vco_k [1, 17, 18] ?_; refine vc_block ?_; refine vc_loop1 (fun (i : Nat) => p.rows.length - i) (fun (i : Nat) => put (put (put (emp) 1 (.box [.slice Af p.free.length cf, .slice Ar p.rows.length cr])) 17 (.val (.int .i64 (p.rows.length : Int)))) 18 (.val (.int .i64 (i : Int)))) (fun (i : Nat) H' => H' = H ∧ (∀ (k : Nat) (r : List Rat × Int × Rat), k < i → p.rows[k]? = some r → RowOk p.free.length r) ∧ i ≤ p.rows.length) 0 (⟨rfl, (fun k r h => by omega), Nat.zero_le _⟩) sub_auto ?_; rintro i H1 ⟨e1, hal, hi⟩; rw [e1]; refine vc_sr ?_; refine vr 1 ?_; refine vco_k [1, 17, 18, 19] ?_; refine vc_seq ?_; refine vc_cond rfl (fun hb => ?_) (fun hb => ?_)
   ·
    have him : i < p.rows.length := by simpa using hb
    obtain ⟨r, hr⟩ : ∃ r, p.rows[i]? = some r := ⟨_, List.getElem?_eq_getElem him⟩; obtain ⟨A0, c0, f, A1, m1, c1, A2, m2, c2, hrp, hrx⟩ := hxR i r hr; refine vc_skip ?_; refine vc_keep [1, 17, 18] rfl ?_; refine vc_seq ?_; refine vc_block ?_; refine vc_sr ?_; refine vr 2 ?_; refine vco_k [1, 3, 17, 18] ?_; refine vc_sr ?_; refine vr 3 ?_; refine vco_at_st (vs := [.slice A0 r.1.length c0, .int .i64 r.2.1, .bool f, .slice A1 m1 c1, .slice A2 m2 c2]) tbOk rfl rfl rfl rfl hrR rfl (by decide) hrx (by omega) (by omega) fun _ => ?_; refine vco_alloc el78 rfl ?_; obtain ⟨ti, hti, htz⟩ := sz78; refine vco_bstore (.inl ⟨rfl, rfl⟩) rfl rfl rfl hti htz rfl rfl rfl ?_; refine vco_k [1, 4, 17, 18] ?_
    by_cases h1 : r.1.length = p.free.length
    ·
     skip
     by_cases h2 : r.2.1 < 1
     ·
      skip
      refine vc_sr ?_; refine vr 6 ?_; refine vco_cmp false rfl rfl (cne_f (by omega)) ?_; refine vr 3 ?_; refine vco_cmp true rfl rfl (clt_t h2) ?_; refine vr 6 ?_; refine vco_k [1, 17, 18, 42] ?_; refine vc_cond_t rfl ?_; refine vc_sr ?_; refine vr 1 ?_; refine vco_k [2] ?_; refine vc_ret ⟨.inr rfl, _, .tmp rfl (.nil), ?_⟩; exact ⟨rfl, false, rfl, ⟨(fun h => by cases h), (fun h => by have h9 := (h.row i r hr).2; omega)⟩⟩
     ·
      skip
      by_cases h3 : 3 < r.2.1
      ·
       skip
       refine vc_sr ?_; refine vr 6 ?_; refine vco_cmp false rfl rfl (cne_f (by omega)) ?_; refine vr 3 ?_; refine vco_cmp false rfl rfl (clt_f (by omega)) ?_; refine vr 4 ?_; refine vco_cmp true rfl rfl (cgt_t h3) ?_; refine vr 1 ?_; refine vco_k [1, 17, 18, 42] ?_; refine vc_cond_t rfl ?_; refine vc_sr ?_; refine vr 1 ?_; refine vco_k [2] ?_; refine vc_ret ⟨.inr rfl, _, .tmp rfl (.nil), ?_⟩; exact ⟨rfl, false, rfl, ⟨(fun h => by cases h), (fun h => by have h9 := (h.row i r hr).2; omega)⟩⟩
      ·
       skip
       refine vc_sr ?_; refine vr 6 ?_; refine vco_cmp false rfl rfl (cne_f (by omega)) ?_; refine vr 3 ?_; refine vco_cmp false rfl rfl (clt_f (by omega)) ?_; refine vr 4 ?_; refine vco_cmp false rfl rfl (cgt_f (by omega)) ?_; refine vr 1 ?_; refine vco_k [1, 17, 18, 42] ?_; refine vc_cond_f rfl ?_; refine vc_skip ?_; refine vc_keep [1, 17, 18] rfl ?_; refine vc_region rfl ?_; refine vco_add rfl rfl ⟨by omega, by omega⟩ ?_; refine vr 1 ?_; refine vco_end ?_; exact ⟨i + 1, by omega, sub_auto, rfl, (fun k r9 hk hr9 => by by_cases h9 : k < i; exact hal k r9 h9 hr9; (obtain rfl : k = i := by omega); rw [hr] at hr9; cases hr9; exact ⟨by omega, by omega⟩), by omega⟩
    ·
     skip
     refine vc_sr ?_; refine vr 6 ?_; refine vco_cmp true rfl rfl (cne_t (by omega)) ?_; refine vr 10 ?_; refine vco_k [1, 17, 18, 42] ?_; refine vc_cond_t rfl ?_; refine vc_sr ?_; refine vr 1 ?_; refine vco_k [2] ?_; refine vc_ret ⟨.inr rfl, _, .tmp rfl (.nil), ?_⟩; exact ⟨rfl, false, rfl, ⟨(fun h => by cases h), (fun h => by have h9 := (h.row i r hr).1; omega)⟩⟩
   ·
    have hb : p.rows.length ≤ i := by simpa using hb
    refine vc_exit ?_; refine vc_keep [] rfl ?_; refine vc_sr ?_; refine vr 1 ?_; refine vco_k [2] ?_; refine vc_ret ⟨.inr rfl, _, .tmp rfl (.nil), ?_⟩; exact ⟨rfl, true, rfl, ⟨fun _ => ⟨by omega, by omega, fun k r hr => hal k r (by have h9 := (List.getElem?_eq_some_iff.1 hr).1; omega) hr⟩, fun _ => rfl⟩⟩
end Go.Eng
