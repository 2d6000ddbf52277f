/- Walks over package lexico, part 1: slices.Clone, slices.Index, slices.Contains at bool; canonical, vectors, extend, refusal. -/
import Derived.Test.YtfjncmjbhfdnpaaGreatA10
import Derived.Test.YtfjncmjbhfdnpaaGreatCat
import Derived.Test.YtfjncmjbhfdnpaaGreatLex
import Derived.Test.YtfjncmjbhfdnpaaGreatEng15
set_option linter.unusedVariables false
namespace Go.Eng
open Go.Proofs Num Lp
/-- A list of numbers as an element. -/
def VecP (N : Nat) (H : Heap) (vs : List Value) (l : List Rat) : Prop := ∃ A c, vs = [.slice A l.length c] ∧ SlV (RatP N) 3 H (.slice A l.length c) l
theorem vecUp (N : Nat) : Up (VecP N) := fun _ _ _ _ hl ⟨A, c, h1, h2⟩ => ⟨A, c, h1, h2.le (ratUp N) hl⟩
theorem oneVec (N : Nat) : One (VecP N) := fun _ vs l ⟨A, c, h1, _⟩ u hu => by
  subst h1
  rw [List.mem_singleton] at hu; rw [hu]; rfl
abbrev LsV (N : Nat) (H : Heap) (v : Value) (ls : List (List Rat)) : Prop := SlV (VecP N) 1 H v ls
theorem vec_get {N : Nat} {H : Heap} {xs : List Value} {ls : List (List Rat)} (h : Els (VecP N H) 1 xs ls) {i : Nat} {l : List Rat} (hi : ls[i]? = some l) : ∃ A c, xs[i]? = some (.slice A l.length c) ∧ SlV (RatP N) 3 H (.slice A l.length c) l := by
  obtain ⟨v, h1, A, c, h2, h3⟩ := h.one hi
  simp only [List.cons.injEq, and_true] at h2
  subst h2
  exact ⟨A, c, h1, h3⟩
theorem gro_new {α : Type} {P : Heap → List Value → α → Prop} {e sz : Nat} {H : Heap} {g : Nat} (hg : H g = none) : Gro P e sz H (ins H g (whole [] e)) (.slice (some ⟨g, 0, none⟩) 0 0) [] [] := by
  refine ⟨⟨by simp, .inr ⟨g, 0, rfl, by rw [ins_same]; simp [whole], Nat.le_refl _, Nat.zero_le _⟩⟩, els_nil, ?_⟩
  show Heap.le H (rem _ [g])
  rw [rem_ins_new _ hg, rem_nil]; exact .refl _
theorem clone_ok {H : Heap} {v : Value} {l : List Bool} (h : SlV BoolP 1 H v l) (hl : l.length ≤ 1000000) :
  Fn Tryz.prog 145 #[v] H (fun v' H' => Heap.le H H' ∧ SlV BoolP 1 H' v' l) := by
 obtain ⟨A, c, xs, rfl, hc, hr, hx⟩ := id h; refine fn_intro (args := [_]) Tryz.func145 rfl rfl Tryz.ntmps145 rfl rfl fun w0 => ?_; refine vc_keep [0] rfl ?_; refine vc_sr ?_; refine vr 1 ?_; refine vco_k [0] ?_; refine vc_seq ?_; refine vc_sr ?_; refine vr 1 ?_; refine vco_eqs Tryz.underlying22 rfl rfl ?_; refine vco_k [0, 4] ?_; refine vc_cond rfl (fun hb => ?_) (fun hb => ?_)
 ·
  have hA : A = none := by simpa using hb
  have hl0 : l = [] := by
   cases hl1 : l with
   | nil => rfl
   | cons a k =>
    rw [hl1] at hx; obtain ⟨u, hu, _⟩ := hx.one (i := 0) (a := a) rfl; obtain ⟨ad, h9, _⟩ := hr 0 u hu; rw [hA] at h9; cases h9
  refine vc_sr ?_; refine vr 1 ?_; refine vco_k [2] ?_; refine vc_ret ⟨.inr rfl, _, .tmp rfl (.nil), ?_⟩; exact ⟨.refl _, by rw [hl0]; exact slV_nil⟩
 ·
  skip
  refine vc_skip ?_; refine vc_keep [0] rfl ?_; refine vc_sr ?_; refine vco_build0 Tryz.underlying22 el4 ?_; intro g hg; have hG := gro_new (P := BoolP) (e := 4) (sz := 1) hg; refine vr 1 ?_; refine vco_app boolUp oneBool (by decide) Tryz.underlying22 el4 rfl rfl hG (h.le boolUp hG.base) (by rw [List.length_nil]; omega) (by rw [List.length_nil]; omega) ?_; intro v2 H2 y2 hG2 _; rw [List.nil_append] at hG2; refine vr 1 ?_; refine vco_k [2] ?_; refine vc_ret ⟨.inr rfl, _, .tmp rfl (.nil), ?_⟩; exact ⟨hG2.le, hG2.sl boolUp⟩
theorem index_ok {H : Heap} {v : Value} {l : List Bool} (h : SlV BoolP 1 H v l) (hl : l.length ≤ 1000000) :
  Fn Tryz.prog 152 #[v, .bool true] H (fun v' H' => H' = H ∧ ∃ z : Int, v' = .int .i64 z ∧ (0 ≤ z ↔ ∃ j : Nat, l[j]? = some true)) := by
 obtain ⟨A, c, xs, rfl, hc, hr, hx⟩ := id h; refine fn_intro (args := [_, _]) Tryz.func152 rfl rfl Tryz.ntmps152 rfl rfl fun w0 => ?_; refine vc_keep [0, 1] rfl ?_; refine vc_sr ?_; refine vr 1 ?_; refine vco_k [0, 1] ?_; refine vc_seq ?_; refine vc_sr ?_; refine vr 3 ?_; refine vco_k [0, 1, 7, 8] ?_; refine vc_block ?_; refine vc_loop1 (fun (i : Nat) => l.length - i) (fun (i : Nat) => put (put (put (put (emp) 0 (.val (.slice A l.length c))) 1 (.val (.bool true))) 7 (.val (.int .i64 (l.length : Int)))) 8 (.val (.int .i64 (i : Int)))) (fun (i : Nat) H' => H' = H ∧ i ≤ l.length ∧ ∀ j, j < i → l[j]? ≠ some true) 0 (⟨rfl, Nat.zero_le _, fun j h => by omega⟩) sub_auto ?_; rintro i H1 ⟨e1, hi, hn⟩; rw [e1]; refine vc_sr ?_; refine vr 1 ?_; refine vco_k [0, 1, 7, 8, 9] ?_; refine vc_seq ?_; refine vc_cond rfl (fun hb => ?_) (fun hb => ?_)
 ·
  have him : i < l.length := by simpa using hb
  obtain ⟨b, hb2⟩ : ∃ b, l[i]? = some b := ⟨_, List.getElem?_eq_getElem him⟩; obtain ⟨u, hu, hub⟩ := hx.one hb2; have hub : [u] = [.bool b] := hub
  simp only [List.cons.injEq, and_true] at hub
  subst hub; refine vc_skip ?_; refine vc_keep [0, 1, 7, 8] rfl ?_; refine vc_seq ?_; refine vc_block ?_; refine vc_sr ?_; refine vr 2 ?_; refine vco_k [0, 1, 5, 7, 8] ?_; refine vc_sr ?_; refine vr 3 ?_; refine vco_at tbOk rfl rfl rfl rfl rfl (hr) (by rw [Int.toNat_natCast]; exact hu) (by omega) (by omega) fun _ => ?_; refine vco_eqb Tryz.underlying4 rfl rfl ?_; refine vco_k [0, 1, 5, 7, 8, 16] ?_; refine vc_cond rfl (fun hb => ?_) (fun hb => ?_)
  ·
   have hbt : b = true := by simpa using hb
   refine vc_sr ?_; refine vr 2 ?_; refine vco_k [4] ?_; refine vc_ret ⟨.inr rfl, _, .tmp rfl (.nil), ?_⟩; exact ⟨rfl, _, rfl, ⟨fun _ => ⟨i, by rw [hb2, hbt]⟩, fun _ => by omega⟩⟩
  ·
   have hbf : b = false := by simpa using hb
   refine vc_skip ?_; refine vc_keep [0, 1, 7, 8] rfl ?_; refine vc_region rfl ?_; refine vco_add rfl rfl ⟨by omega, by omega⟩ ?_; refine vr 1 ?_; refine vco_end ?_; exact ⟨i + 1, by omega, sub_auto, rfl, by omega, fun j hj => by by_cases h9 : j < i; exact hn j h9; (obtain rfl : j = i := by omega); rw [hb2, hbf]; simp⟩
 ·
  have hb : l.length ≤ i := by simpa using hb
  refine vc_exit ?_; refine vc_keep [] rfl ?_; refine vc_sr ?_; refine vr 1 ?_; refine vco_k [4] ?_; refine vc_ret ⟨.inr rfl, _, .tmp rfl (.nil), ?_⟩; exact ⟨rfl, _, rfl, ⟨fun h => by omega, fun ⟨j, hj⟩ => absurd hj (hn j (by have := (List.getElem?_eq_some_iff.1 hj).1; omega))⟩⟩
theorem contains_ok {H : Heap} {v : Value} {l : List Bool} (h : SlV BoolP 1 H v l) (hl : l.length ≤ 1000000) :
  Fn Tryz.prog 83 #[v, .bool true] H (fun v' H' => H' = H ∧ ∃ b, v' = .bool b ∧ (b = true ↔ ∃ j : Nat, l[j]? = some true)) := by
 obtain ⟨A, c, xs, rfl, hc, hr, hx⟩ := id h; refine fn_intro (args := [_, _]) Tryz.func83 rfl rfl Tryz.ntmps83 rfl rfl fun w0 => ?_; refine vc_keep [0, 1] rfl ?_; refine vc_sr ?_; refine vr 1 ?_; refine vco_k [0, 1] ?_; refine vc_sr ?_; refine vr 2 ?_; refine vco_call rfl rfl (index_ok h hl) ?_; rintro _ H1 ⟨e1, z, rfl, hz⟩; rw [e1]; refine vr 2 ?_; refine vco_k [4] ?_; refine vc_ret ⟨.inr rfl, _, .tmp rfl (.nil), ?_⟩; exact ⟨rfl, _, rfl, by rw [← hz]; simp⟩
theorem lcan_ok {H : Heap} {v : Value} {l : List Rat} {N : Nat} (h : SlV (RatP N) 3 H v l) (hl : l.length ≤ 1000) (hN : (N : Int) ≤ 1099511627776) :
  Fn Tryz.prog 146 #[v] H (fun v' H' => Heap.le H H' ∧ ∃ A c, v' = .slice A l.length c ∧ SlV (RatP (N + 2)) 3 H' v' l) := by
 have hz := h.rsize
 obtain ⟨A, c, xs, rfl, hc, hr, hx⟩ := id h; refine fn_intro (args := [_]) Tryz.func146 rfl rfl Tryz.ntmps146 rfl rfl fun w0 => ?_; refine vc_keep [0] rfl ?_; refine vc_sr ?_; refine vr 1 ?_; refine vco_k [0] ?_; refine vc_sr ?_; refine vr 1 ?_; refine vco_k [0, 3] ?_; refine vc_seq ?_; refine vc_sr ?_; refine vr 3 ?_; refine vco_k [3, 6, 7, 8] ?_; refine vc_block ?_; refine vc_loop3 (fun (i : Nat) (w : Value) (ys : List Value) => l.length - i) (fun (i : Nat) (w : Value) (ys : List Value) => put (put (put (put (emp) 3 (.val (w))) 6 (.val (.slice A l.length c))) 7 (.val (.int .i64 (l.length : Int)))) 8 (.val (.int .i64 (i : Int)))) (fun (i : Nat) (w : Value) (ys : List Value) H' => Gro CanP 31 3 H H' w (l.take i) ys ∧ i ≤ l.length) 0 (.slice none 0 0) [] (⟨gro_nil H, Nat.zero_le _⟩) sub_auto ?_; rintro i w ys H1 ⟨hG, hi⟩; obtain ⟨W, cw, rfl⟩ := hG.form
 have htl : (l.take i).length = i := by rw [List.length_take]; omega
 refine vc_sr ?_; refine vr 1 ?_; refine vco_k [3, 6, 7, 8, 9] ?_; refine vc_seq ?_; refine vc_cond rfl (fun hb => ?_) (fun hb => ?_)
 ·
  have hil : i < l.length := by simpa using hb
  obtain ⟨q, hq⟩ : ∃ q, l[i]? = some q := ⟨_, List.getElem?_eq_getElem hil⟩; obtain ⟨f1, A1, k1, c1, A2, k2, c2, hs1, hraw1, hx1⟩ := SlV.seg3 hx hq; refine vc_skip ?_; refine vc_keep [3, 6, 7, 8] rfl ?_; refine vc_seq ?_; refine vc_block ?_; refine vc_sr ?_; refine vco_at_st (vs := [.bool f1, .slice A1 k1 c1, .slice A2 k2 c2]) tbOk rfl rfl rfl rfl (hr.le hG.le) rfl (by decide) hx1 (by omega) (by omega) fun _ => ?_; refine vco_alloc el31 rfl ?_; obtain ⟨ti, hti, htz⟩ := sz31; refine vco_bstore (.inl ⟨rfl, rfl⟩) rfl rfl rfl hti htz rfl rfl rfl ?_; refine vco_k [3, 5, 6, 7, 8] ?_; refine vc_region rfl ?_; refine vr 2 ?_; refine vco_call rfl rfl (hG.call (Canonical_ok (hraw1.le hG.base) hN)) ?_; rintro _ H2 hF2; have hG2 := hG.framed canUp hF2 fun _ _ h => h.1; obtain ⟨⟨_, hq2⟩, _⟩ := hF2; obtain ⟨f2, A21, m21, c21, A22, m22, c22, rfl⟩ := hq2.form; refine vco_build Tryz.underlying26 el31 rfl rfl rfl rfl rfl rfl rfl ?_; intro gb hgb; have hG3 := hG2.ins canUp (whole (cellsL [.agg #[.bool f2, .slice A21 m21 c21, .slice A22 m22 c22]]) 31) hgb; refine vco_append Tryz.underlying26 el31 rfl rfl hG3.own (rd_ins _ _ _ _ _ _) rfl (one_rat _ _ _ _ _ _ _) (by rw [htl]; omega) (by rw [htl]; omega) ?_; intro v4 H4 ha4; have hG4 := hG3.append canUp (k := [q]) (by simp) ha4 (els_one (canUp _ _ _ _ (rem_mono _ (Heap.le_ins _ hgb)) (show CanP _ [_, _, _] _ from hq2)) rfl); refine vr 1 ?_; refine vco_end ?_; refine vc_keep [3, 6, 7, 8] rfl ?_; refine vc_region rfl ?_; refine vco_add rfl rfl ⟨by omega, by omega⟩ ?_
  refine vr 1 ?_; refine vco_end ?_; exact ⟨i + 1, _, _, by omega, sub_auto, by rw [take_snoc hq]; exact hG4, by omega⟩
 ·
  have hb : l.length ≤ i := by simpa using hb
  obtain rfl : i = l.length := by omega
  rw [List.take_length] at hG; rw [List.take_length]; refine vc_exit ?_; refine vc_keep [3] rfl ?_; refine vc_sr ?_; refine vr 2 ?_; refine vco_k [2] ?_; refine vc_ret ⟨.inr rfl, _, .tmp rfl (.nil), ?_⟩; exact ⟨hG.le, _, _, rfl, (hG.sl canUp).can_rat hz⟩
theorem vectors_ok {H : Heap} {v ov : Value} {p : Prg} {os : List (List Rat)} {N : Nat} (hp : ProgV N H v p) (ho : LsV N H ov os) (hol : os.length ≤ 9223372036854775807) :
  Fn Tryz.prog 144 #[v, ov] H (fun v' H' => H' = H ∧ ∃ b, v' = .bool b ∧ (b = true ↔ ∀ o, o ∈ os → o.length = p.free.length)) := by
 obtain ⟨fv, rv0, rfl, hfv, hrv0⟩ := id hp
 obtain ⟨Af, cf, xf, rfl, hrF, hxF⟩ := hfv.one
 obtain ⟨Ar, cr, xr, rfl, hcr, hrR, hxR⟩ := id hrv0
 obtain ⟨Ao, co, xo, rfl, hco, hro, hxo⟩ := id ho; refine fn_intro (args := [_, _]) Tryz.func144 rfl rfl Tryz.ntmps144 rfl rfl fun w0 => ?_; refine vc_keep [0, 1] rfl ?_; refine vc_sr ?_; refine vco_box rfl rfl ?_; refine vr 1 ?_; refine vco_k [1, 2] ?_; refine vc_seq ?_; refine vc_sr ?_; refine vr 3 ?_; refine vco_k [2, 7, 8, 9] ?_; refine vc_block ?_; refine vc_loop1 (fun (i : Nat) => os.length - i) (fun (i : Nat) => put (put (put (put (emp) 2 (.box [.slice Af p.free.length cf, .slice Ar p.rows.length cr])) 7 (.val (.slice Ao os.length co))) 8 (.val (.int .i64 (os.length : Int)))) 9 (.val (.int .i64 (i : Int)))) (fun (i : Nat) H' => H' = H ∧ i ≤ os.length ∧ ∀ (j : Nat) (o : List Rat), j < i → os[j]? = some o → o.length = p.free.length) 0 (⟨rfl, Nat.zero_le _, fun j o h => by omega⟩) sub_auto ?_; rintro i H1 ⟨e1, hi, hn⟩; rw [e1]; refine vc_sr ?_; refine vr 1 ?_; refine vco_k [2, 7, 8, 9, 10] ?_; refine vc_seq ?_; refine vc_cond rfl (fun hb => ?_) (fun hb => ?_)
 ·
  have him : i < os.length := by simpa using hb
  obtain ⟨o, hoi⟩ : ∃ o, os[i]? = some o := ⟨_, List.getElem?_eq_getElem him⟩; obtain ⟨B, cb, hbx, hbs⟩ := vec_get hxo hoi; refine vc_skip ?_; refine vc_keep [2, 7, 8, 9] rfl ?_; refine vc_seq ?_; refine vc_block ?_; refine vc_sr ?_; refine vco_at tbOk rfl rfl rfl rfl rfl (hro) (by rw [Int.toNat_natCast]; exact hbx) (by omega) (by omega) fun _ => ?_; refine vr 1 ?_; refine vco_k [2, 6, 7, 8, 9] ?_; refine vc_sr ?_; refine vr 6 ?_; refine vco_k [2, 7, 8, 9, 18] ?_; refine vc_cond rfl (fun hb => ?_) (fun hb => ?_)
  ·
   have h2 : ¬ o.length = p.free.length := by simpa [Int.natCast_inj] using hb
   refine vc_sr ?_; refine vr 1 ?_; refine vco_k [4] ?_; refine vc_ret ⟨.inr rfl, _, .tmp rfl (.nil), ?_⟩; exact ⟨rfl, false, rfl, ⟨(fun h => by cases h), fun h => absurd (h o (List.mem_of_getElem? hoi)) h2⟩⟩
  ·
   have h2 : o.length = p.free.length := by simpa [Int.natCast_inj] using hb
   refine vc_skip ?_; refine vc_keep [2, 7, 8, 9] rfl ?_; refine vc_region rfl ?_; refine vco_add rfl rfl ⟨by omega, by omega⟩ ?_; refine vr 1 ?_; refine vco_end ?_; exact ⟨i + 1, by omega, sub_auto, rfl, by omega, fun j o9 hj ho9 => by by_cases h9 : j < i; exact hn j o9 h9 ho9; (obtain rfl : j = i := by omega); rw [hoi] at ho9; cases ho9; exact h2⟩
 ·
  have hb : os.length ≤ i := by simpa using hb
  refine vc_exit ?_; refine vc_keep [] rfl ?_; refine vc_sr ?_; refine vr 1 ?_; refine vco_k [4] ?_; refine vc_ret ⟨.inr rfl, _, .tmp rfl (.nil), ?_⟩; exact ⟨rfl, true, rfl, ⟨fun _ o h => by obtain ⟨j, hj⟩ := List.getElem?_of_mem h; exact hn j o (by have := (List.getElem?_eq_some_iff.1 hj).1; omega) hj, fun _ => rfl⟩⟩
end Go.Eng
