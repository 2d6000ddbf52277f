/- keep2.Place, at any length. -/
import Derived.Test.YtbbjgagpbffooaaGreatA10
set_option linter.unusedVariables false
namespace Go.Eng
open Go.Proofs Num Lp
theorem placeAny_ok {H : Heap} {x : Int} {n : Nat} (hx : 0 ≤ x) (hx2 : x ≤ 255) (hn : n ≤ 1000000) :
  Fn Tryz.prog 30 #[.int .u8 x, .int .i64 (n : Int)] H (fun v H' => Heap.le H H' ∧ H' = H ∧ ∃ k : Nat, v = .int .i64 (k : Int) ∧ k ≤ n ∧ (0 < n → k < n)) := by
 refine fn_intro (args := [_, _]) Tryz.func30 rfl rfl Tryz.ntmps30 rfl rfl fun w0 => ?_; refine vc_keep [0, 1] rfl ?_; refine vc_sr ?_; refine vr 1 ?_; refine vco_k [0, 1] ?_; refine vc_seq ?_; refine vc_sr ?_; refine vr 2 ?_; refine vco_k [0, 1, 6] ?_; refine vc_cond rfl (fun hb => ?_) (fun hb => ?_)
 ·
  have hb : (n : Int) < 1 := by simpa using hb
  refine vc_sr ?_; refine vr 1 ?_; refine vco_k [4] ?_; refine vc_ret ⟨.inr rfl, _, .tmp rfl (.nil), ?_⟩; exact ⟨.refl _, rfl, 0, rfl, Nat.zero_le _, fun h => by omega⟩
 ·
  have hb : 1 ≤ (n : Int) := by simpa using hb
  refine vc_skip ?_; refine vc_keep [0, 1] rfl ?_; refine vc_sr ?_; refine vr 1 ?_; refine vco_conv tbOk rfl rfl rfl ⟨by omega, by omega⟩ ?_; refine vr 1 ?_; refine vco_rem rfl rfl (by omega) (by omega) ?_; refine vr 1 ?_; refine vco_k [4] ?_; refine vc_ret ⟨.inr rfl, _, .tmp rfl (.nil), ?_⟩; have h1 : 0 ≤ x % (n : Int) := Int.emod_nonneg _ (by omega); have h2 : x % (n : Int) < n := Int.emod_lt_of_pos _ (by omega); exact ⟨.refl _, rfl, (x % (n : Int)).toNat, by rw [Int.toNat_of_nonneg h1]; rfl, by omega, fun _ => by omega⟩
end Go.Eng
