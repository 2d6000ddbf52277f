/- Walks over package amortcostlaw24: kept, usable, plus. -/
import Derived.Test.YtbbjgagpbffooaaGreatA10
import Derived.Test.YtbbjgagpbffooaaGreatEn7
import Derived.Test.YtbbjgagpbffooaaGreatEn6
set_option linter.unusedVariables false
namespace Go.Eng
open Go.Proofs Num Lp
/-- Few forms of few terms. -/
def KeptL (m n : Nat) (fs : List Lin) : Prop := fs.length ≤ m ∧ ∀ f, f ∈ fs → f.ts.length ≤ n
theorem kept_few {fs : List Lin} {g : Lin} (h : KeptL 6 4 fs) (hg : LinOk g) : fs.length ≤ 6 ∧ (ment (fs ++ [g])).length ≤ 100 := by
  refine ⟨h.1, ?_⟩
  have h1 := ment_len (fs ++ [g])
  have h2 : (allVars (fs ++ [g])).length = (allVars fs).length + (allVars [g]).length := by unfold allVars; rw [List.flatMap_append, List.length_append]
  have h3 := allVars_len h.2
  have h4 := allVars_len (fs := [g]) (k := 16) fun f hf => by rw [List.mem_singleton.1 hf]; exact hg.len
  have h5 := h.1
  simp only [List.length_singleton] at h4
  omega
structure Usab (fs gs : List Lin) : Prop where
  val : ∀ (i : Nat) (g : Lin), gs[i]? = some g → LinOk g
  keptF : KeptL 6 4 fs
  keptG : KeptL 4 4 gs
  ok : FactsOk fs
theorem Usab.few {fs gs : List Lin} (h : Usab fs gs) (g : Lin) : FewL fs g := fun _ hg => kept_few h.keptF hg
theorem fm_one {H : Heap} {gb : Nat} (hgb : H gb = none) {a : Lin} {A : Option Addr} {ca : Nat} (ha : SlV TermP 2 H (.slice A a.ts.length ca) a.ts) : Heap.le H (ins H gb (whole (cellsL [.agg #[.int .i64 a.c, .slice A a.ts.length ca]]) 25)) ∧ FmV (ins H gb (whole (cellsL [.agg #[.int .i64 a.c, .slice A a.ts.length ca]]) 25)) (.slice (some ⟨gb, 0, none⟩) 1 1) [a] := by
  have hl1 := Heap.le_ins (whole (cellsL [.agg #[.int .i64 a.c, .slice A a.ts.length ca]]) 25) hgb
  exact ⟨hl1, slV_of_whole rfl (els_one (show FormP _ [_, _] a from ⟨A, ca, rfl, ha.le termUp hl1⟩) rfl)⟩
theorem fm_two {H : Heap} {gb : Nat} (hgb : H gb = none) {a b : Lin} {A B : Option Addr} {ca cb : Nat} (ha : SlV TermP 2 H (.slice A a.ts.length ca) a.ts) (hb : SlV TermP 2 H (.slice B b.ts.length cb) b.ts) : Heap.le H (ins H gb (whole (cellsL [.agg #[.int .i64 a.c, .slice A a.ts.length ca], .agg #[.int .i64 b.c, .slice B b.ts.length cb]]) 25)) ∧ FmV (ins H gb (whole (cellsL [.agg #[.int .i64 a.c, .slice A a.ts.length ca], .agg #[.int .i64 b.c, .slice B b.ts.length cb]]) 25)) (.slice (some ⟨gb, 0, none⟩) 2 2) [a, b] := by
  have hl1 := Heap.le_ins (whole (cellsL [.agg #[.int .i64 a.c, .slice A a.ts.length ca], .agg #[.int .i64 b.c, .slice B b.ts.length cb]]) 25) hgb
  exact ⟨hl1, slV_of_whole rfl (els_cons (show FormP _ [_, _] a from ⟨A, ca, rfl, ha.le termUp hl1⟩) rfl (els_one (show FormP _ [_, _] b from ⟨B, cb, rfl, hb.le termUp hl1⟩) rfl))⟩
theorem kept24_ok {H : Heap} {v gv : Value} {fs gs : List Lin} (hv : FmV H v fs) (hg : FmV H gv gs) :
  Fn Tryz.prog 16 #[v, gv] H (fun v' H' => H' = H ∧ ∃ b, v' = .bool b ∧ (b = true ↔ KeptL 6 4 fs ∧ KeptL 4 4 gs)) := by
 obtain ⟨A, c, xs, rfl, hc, hr, hx⟩ := id hv
 obtain ⟨B, d, ys, rfl, hd, hs, hy⟩ := id hg; refine fn_intro (args := [_, _]) Tryz.func16 rfl rfl Tryz.ntmps16 rfl rfl fun w0 => ?_; refine vc_keep [0, 1] rfl ?_; refine vc_sr ?_; refine vr 1 ?_; refine vco_k [0, 1] ?_; refine vc_sr ?_; refine vr 1 ?_; refine vco_call rfl rfl (kLins_ok (m := 6) (n := 4) hv (by omega)) ?_; rintro _ H2 ⟨e2, b2, rfl, hb2⟩; rw [e2]
 cases b2
 ·
  skip
  refine vr 5 ?_; refine vco_k [4] ?_; refine vc_ret ⟨.inr rfl, _, .tmp rfl (.nil), ?_⟩; exact ⟨rfl, false, rfl, ⟨(fun h => by cases h), fun h => (by have h9 := hb2.2 h.1; cases h9)⟩⟩
 ·
  skip
  refine vr 2 ?_; refine vco_call rfl rfl (kLins_ok (m := 4) (n := 4) hg (by omega)) ?_; rintro _ H3 ⟨e3, b3, rfl, hb3⟩; rw [e3]; refine vr 2 ?_; refine vco_k [4] ?_; refine vc_ret ⟨.inr rfl, _, .tmp rfl (.nil), ?_⟩; exact ⟨rfl, b3, rfl, hb3.trans ⟨fun h => ⟨hb2.1 rfl, h⟩, fun h => h.2⟩⟩
theorem usable_ok {H : Heap} {v gv : Value} {fs gs : List Lin} (hv : FmV H v fs) (hg : FmV H gv gs) (hgl : gs.length ≤ 1000) :
  Fn Tryz.prog 24 #[v, gv] H (fun v' H' => Heap.le H H' ∧ ∃ b, v' = .bool b ∧ (b = true ↔ Usab fs gs)) := by
 obtain ⟨A, c, xs, rfl, hc, hr, hx⟩ := id hv
 obtain ⟨B, d, ys, rfl, hd, hs, hy⟩ := id hg; refine fn_intro (args := [_, _]) Tryz.func24 rfl rfl Tryz.ntmps24 rfl rfl fun w0 => ?_; refine vc_keep [0, 1] rfl ?_; refine vc_sr ?_; refine vr 1 ?_; refine vco_k [0, 1] ?_; refine vc_seq ?_; refine vc_sr ?_; refine vr 3 ?_; refine vco_k [0, 1, 7, 8] ?_; refine vc_block ?_; refine vc_loop1 (fun (i : Nat) => gs.length - i) (fun (i : Nat) => put (put (put (put (emp) 0 (.val (.slice A fs.length c))) 1 (.val (.slice B gs.length d))) 7 (.val (.int .i64 (gs.length : Int)))) 8 (.val (.int .i64 (i : Int)))) (fun (i : Nat) H' => H' = H ∧ i ≤ gs.length ∧ ∀ (k : Nat) (g : Lin), k < i → gs[k]? = some g → LinOk g) 0 (⟨rfl, Nat.zero_le _, fun k f h => by omega⟩) sub_auto ?_; rintro i H1 ⟨e1, hi, hk⟩; rw [e1]; refine vc_sr ?_; refine vr 1 ?_; refine vco_k [0, 1, 7, 8, 9] ?_; refine vc_seq ?_; refine vc_cond rfl (fun hb => ?_) (fun hb => ?_)
 ·
  have him : i < gs.length := by simpa using hb
  obtain ⟨f, hf⟩ : ∃ f, gs[i]? = some f := ⟨_, List.getElem?_eq_getElem him⟩; obtain ⟨E, ce, hfs, hxf⟩ := form_get hy hf; refine vc_skip ?_; refine vc_keep [0, 1, 7, 8] rfl ?_; refine vc_seq ?_; refine vc_block ?_; refine vc_sr ?_; refine vr 2 ?_; refine vco_k [0, 1, 5, 7, 8] ?_; refine vc_sr ?_; refine vr 2 ?_; refine vco_at_st tbOk rfl rfl rfl rfl (hs) rfl (by decide) (hxf) (by omega) (by omega) fun _ => ?_; refine vco_call rfl rfl (rvalidlin_ok hfs) ?_; rintro _ H3 ⟨e3, b3, rfl, hb3⟩; rw [e3]; refine vr 1 ?_; refine vco_k [0, 1, 7, 8, 16] ?_; refine vc_cond rfl (fun hb => ?_) (fun hb => ?_)
  ·
   have hbt : ¬ b3 = true := by simpa using hb
   refine vc_sr ?_; refine vr 1 ?_; refine vco_k [4] ?_; refine vc_ret ⟨.inr rfl, _, .tmp rfl (.nil), ?_⟩; exact ⟨.refl _, false, rfl, ⟨(fun h => by cases h), fun h => absurd (hb3.2 (h.val i f hf)) hbt⟩⟩
  ·
   have hbt : b3 = true := by simpa using hb
   refine vc_skip ?_; refine vc_keep [0, 1, 7, 8] rfl ?_; refine vc_region rfl ?_; refine vco_add rfl rfl ⟨by omega, by omega⟩ ?_; refine vr 1 ?_; refine vco_end ?_; exact ⟨i + 1, by omega, sub_auto, rfl, by omega, fun k f9 h9 hf9 => by by_cases e : k < i; exact hk k f9 e hf9; (obtain rfl : k = i := by omega); rw [hf] at hf9; cases hf9; exact hb3.1 hbt⟩
 ·
  have hb : gs.length ≤ i := by simpa using hb
  have hall : ∀ (k : Nat) (f : Lin), gs[k]? = some f → LinOk f := fun k f h => hk k f (by have := (List.getElem?_eq_some_iff.1 h).1; omega) h; refine vc_exit ?_; refine vc_keep [0, 1] rfl ?_; refine vc_sr ?_; refine vr 2 ?_; refine vco_call rfl rfl (kept24_ok hv hg) ?_; rintro _ H2 ⟨e2, b2, rfl, hb2⟩; rw [e2]
  cases b2
  ·
   skip
   refine vr 5 ?_; refine vco_k [4] ?_; refine vc_ret ⟨.inr rfl, _, .tmp rfl (.nil), ?_⟩; exact ⟨.refl _, false, rfl, ⟨(fun h => by cases h), fun h => (by have h9 := hb2.2 ⟨h.keptF, h.keptG⟩; cases h9)⟩⟩
  ·
   skip
   refine vr 2 ?_; refine vco_call rfl rfl (rvalidfacts_ok hv) ?_; rintro _ H4 ⟨hl4, b4, rfl, hb4⟩; refine vr 2 ?_; refine vco_k [4] ?_; refine vc_ret ⟨.inr rfl, _, .tmp rfl (.nil), ?_⟩; exact ⟨hl4, b4, rfl, hb4.trans ⟨fun h => ⟨hall, (hb2.1 rfl).1, (hb2.1 rfl).2, h⟩, fun h => h.ok⟩⟩
end Go.Eng
