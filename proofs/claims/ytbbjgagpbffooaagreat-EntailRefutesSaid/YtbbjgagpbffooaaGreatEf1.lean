/- Walks over package amortcostlaw24: kept, usable, plus. -/
import Derived.Test.YtbbjgagpbffooaaGreatA10
import Derived.Test.YtbbjgagpbffooaaGreatEn7
import Derived.Test.YtbbjgagpbffooaaGreatEn6
set_option linter.unusedVariables false
namespace Go.Eng
open Go.Proofs Num Lp
/-- Few forms of few terms. -/
def KeptL (m n : Nat) (fs : List Lin) : Prop := fs.length ≤ m ∧ ∀ f, f ∈ fs → f.ts.length ≤ n
theorem fm_one {H : Heap} {gb : Nat} (hgb : H gb = none) {a : Lin} {A : Option Addr} {ca : Nat} (ha : SlV TermP 2 H (.slice A a.ts.length ca) a.ts) : Heap.le H (ins H gb (whole (cellsL [.agg #[.int .i64 a.c, .slice A a.ts.length ca]]) 25)) ∧ FmV (ins H gb (whole (cellsL [.agg #[.int .i64 a.c, .slice A a.ts.length ca]]) 25)) (.slice (some ⟨gb, 0, none⟩) 1 1) [a] := by
  have hl1 := Heap.le_ins (whole (cellsL [.agg #[.int .i64 a.c, .slice A a.ts.length ca]]) 25) hgb
  exact ⟨hl1, slV_of_whole rfl (els_one (show FormP _ [_, _] a from ⟨A, ca, rfl, ha.le termUp hl1⟩) rfl)⟩
theorem fm_two {H : Heap} {gb : Nat} (hgb : H gb = none) {a b : Lin} {A B : Option Addr} {ca cb : Nat} (ha : SlV TermP 2 H (.slice A a.ts.length ca) a.ts) (hb : SlV TermP 2 H (.slice B b.ts.length cb) b.ts) : Heap.le H (ins H gb (whole (cellsL [.agg #[.int .i64 a.c, .slice A a.ts.length ca], .agg #[.int .i64 b.c, .slice B b.ts.length cb]]) 25)) ∧ FmV (ins H gb (whole (cellsL [.agg #[.int .i64 a.c, .slice A a.ts.length ca], .agg #[.int .i64 b.c, .slice B b.ts.length cb]]) 25)) (.slice (some ⟨gb, 0, none⟩) 2 2) [a, b] := by
  have hl1 := Heap.le_ins (whole (cellsL [.agg #[.int .i64 a.c, .slice A a.ts.length ca], .agg #[.int .i64 b.c, .slice B b.ts.length cb]]) 25) hgb
  exact ⟨hl1, slV_of_whole rfl (els_cons (show FormP _ [_, _] a from ⟨A, ca, rfl, ha.le termUp hl1⟩) rfl (els_one (show FormP _ [_, _] b from ⟨B, cb, rfl, hb.le termUp hl1⟩) rfl))⟩
theorem kept24_ok {H : Heap} {v gv : Value} {fs gs : List Lin} (hv : FmV H v fs) (hg : FmV H gv gs) :
  Fn Tryz.prog 16 #[v, gv] H (fun v' H' => H' = H ∧ ∃ b, v' = .bool b ∧ (b = true ↔ KeptL 6 4 fs ∧ KeptL 4 4 gs)) := by
 obtain ⟨A, c, xs, rfl, hc, hr, hx⟩ := id hv
 obtain ⟨B, d, ys, rfl, hd, hs, hy⟩ := id hg; refine fn_intro (args := [_, _]) Tryz.func16 rfl rfl Tryz.ntmps16 rfl rfl fun w0 => ?_; refine vc_keep [0, 1] rfl ?_; refine vc_sr ?_; refine vr 1 ?_; refine vco_k [0, 1] ?_; refine vc_sr ?_; refine vr 1 ?_; refine vco_call rfl rfl (kLins_ok (m := 6) (n := 4) hv (by omega)) ?_; rintro _ H2 ⟨e2, b2, rfl, hb2⟩; rw [e2]
 cases b2
 ·
  skip
  refine vr 5 ?_; refine vco_k [4] ?_; refine vc_ret ⟨.inr rfl, _, .tmp rfl (.nil), ?_⟩; exact ⟨rfl, false, rfl, ⟨(fun h => by cases h), fun h => (by have h9 := hb2.2 h.1; cases h9)⟩⟩
 ·
  skip
  refine vr 2 ?_; refine vco_call rfl rfl (kLins_ok (m := 4) (n := 4) hg (by omega)) ?_; rintro _ H3 ⟨e3, b3, rfl, hb3⟩; rw [e3]; refine vr 2 ?_; refine vco_k [4] ?_; refine vc_ret ⟨.inr rfl, _, .tmp rfl (.nil), ?_⟩; exact ⟨rfl, b3, rfl, hb3.trans ⟨fun h => ⟨hb2.1 rfl, h⟩, fun h => h.2⟩⟩
end Go.Eng
