/- Walks over package amortcostlaw22: loose. -/
import Derived.Test.YtfkeccepnppjnaaGreatA11
import Derived.Test.YtfkeccepnppjnaaGreatGrw2
import Derived.Test.YtfkeccepnppjnaaGreatChk1
set_option linter.unusedVariables false
namespace Go.Eng
open Go.Proofs Num Lp
theorem CanV.parts {H : Heap} {f : Bool} {A1 A2 : Option Addr} {m1 c1 m2 c2 : Nat} {q : Rat} (h : CanV H (.agg #[.bool f, .slice A1 m1 c1, .slice A2 m2 c2]) q) :
    f = decide (q.num < 0) ∧ (m1 = (limbs q.num.natAbs).length ∧ m1 ≤ c1 ∧ Rd H A1 (U (limbs q.num.natAbs))) ∧ m2 = (limbs q.den).length ∧ m2 ≤ c2 ∧ Rd H A2 (U (limbs q.den)) := by
  obtain ⟨u, w, e, ⟨A, c, rfl, h1, h2⟩, A', c', rfl, h3, h4⟩ := h
  have e' := arr3 (vs := [.bool f, .slice A1 m1 c1, .slice A2 m2 c2]) e
  simp only [List.cons.injEq, Value.bool.injEq, Value.slice.injEq, and_true] at e'
  obtain ⟨rfl, ⟨rfl, rfl, rfl⟩, rfl, rfl, rfl⟩ := e'
  exact ⟨rfl, ⟨rfl, h1, h2⟩, rfl, h3, h4⟩
theorem limbs_lone {x : Nat} (h : (limbs x).length = 1) : limbs x = [x] ∧ x < 1000000000 ∧ 0 < x := by
  have h1 : x < B ^ 1 := limbs_len_le.1 (by omega)
  have h2 : 0 < x := Nat.pos_of_ne_zero fun e => by subst e; rw [limbs_zero] at h; cases h
  have h3 : x < B := by simpa using h1
  refine ⟨?_, by rw [show B = 1000000000 from rfl] at h3; exact h3, h2⟩
  rw [limbs_pos h2, Nat.mod_eq_of_lt h3, Nat.div_eq_of_lt h3, limbs_zero]
theorem frac_scale (f : Bool) (n d : Nat) {m : Nat} (h : 0 < m) : frac f (n * m) (d * m) = frac f n d := by
  unfold frac
  have e : sg f (n * m) = sg f n * m := by cases f <;> simp [sg, Int.neg_mul]
  rw [e, Rat.mkRat_mul_right (by omega)]
theorem take_snoc {α : Type} {l : List α} {k : Nat} {z : α} (h : l[k]? = some z) : l.take (k + 1) = l.take k ++ [z] := by rw [List.take_add_one, h]; rfl
theorem val_one (x : Nat) : val [x] = x := by simp [val]
theorem val_two (x : Nat) : val [x, 0] = x := by simp [val]
theorem loose_ok {H : Heap} {v : Value} {l : List Rat} {N : Nat} {k : Int} (hl : SlV (RatP N) 3 H v l) (hk0 : 0 ≤ k) (hk1 : k ≤ 255) (hln : l.length ≤ 4000) (hN : N ≤ 100) :
  Fn Tryz.prog 34 #[v, .int .u8 k] H (fun v' H' => Heap.le H H' ∧ ∃ A c, v' = .slice A l.length c ∧ SlV (RatP (N + 3)) 3 H' v' l) := by
 obtain ⟨A, ca, xa, rfl, hca, hra, hxa⟩ := hl
 refine fn_intro (args := [_, _]) Tryz.func34 rfl rfl Tryz.ntmps34 rfl rfl fun w0 => ?_
 refine vc_keep [0, 1] rfl ?_
 refine vc_sr ?_
 refine vco_run tbOk 1 rfl ?_
 refine vco_k [0, 1] ?_
 refine vc_sr ?_
 refine vco_run tbOk 1 rfl ?_
 refine vco_conv tbOk rfl rfl rfl ⟨by omega, by omega⟩ ?_
 refine vco_rem rfl rfl (by omega) (by omega) ?_
 refine vco_add rfl rfl ⟨by omega, by omega⟩ ?_
 refine vco_run tbOk 1 rfl ?_
 refine vco_k [0, 5] ?_
 obtain ⟨mm, hmm⟩ : ∃ mm : Nat, 1 + k % 4 = (mm : Int) := ⟨(1 + k % 4).toNat, by omega⟩
 have hm1 : 1 ≤ mm := by omega
 have hm4 : mm ≤ 4 := by omega
 rw [hmm]
 refine vc_sr ?_
 refine vco_run tbOk 2 rfl ?_
 refine vco_make Tryz.underlying26 el34 rfl rfl rfl (by omega) (by omega) (by omega) (by omega) ?_
 intro g hg
 have hg0 := gro_make (P := RatP (N + 3)) (e := 34) (sz := 3) (zs := [.bool false, .slice none 0 0, .slice none 0 0]) (z := 0) (k := (l.length : Int)) (c := l.length) hg rfl (by omega) (by unfold maxLen; omega)
 refine vco_run tbOk 1 rfl ?_
 refine vco_k [0, 5, 6] ?_
 refine vc_seq ?_
 refine vc_sr ?_
 refine vco_run tbOk 3 rfl ?_
 refine vco_k [5, 6, 17, 18, 19] ?_
 refine vc_block ?_
 refine vc_loop3 (fun (i : Nat) (w : Value) (xs : List Value) => l.length - i) (fun (i : Nat) (w : Value) (xs : List Value) => put (put (put (put (put (emp) 5 (.val (.int .u32 (mm : Int)))) 6 (.val (w))) 17 (.val (.slice A l.length ca))) 18 (.val (.int .i64 (l.length : Int)))) 19 (.val (.int .i64 (i : Int)))) (fun (i : Nat) (w : Value) (xs : List Value) H' => Gro (RatP (N + 3)) 34 3 H H' w (l.take i) xs ∧ i ≤ l.length) 0 _ [] (⟨by simpa using hg0, Nat.zero_le _⟩) sub_auto ?_
 rintro i w xs H1 ⟨hG, hi⟩
 obtain ⟨W, cw, rfl⟩ := hG.form
 have htl : (l.take i).length = i := by rw [List.length_take]; omega
 refine vc_sr ?_
 refine vco_run tbOk 1 rfl ?_
 refine vco_k [5, 6, 17, 18, 19, 20] ?_
 refine vc_seq ?_
 refine vc_cond rfl (fun hb => ?_) (fun hb => ?_)
 ·
  have hil : i < l.length := by simpa using hb
  obtain ⟨q, hq⟩ : ∃ q, l[i]? = some q := ⟨_, List.getElem?_eq_getElem hil⟩
  obtain ⟨f1, A1, k1, c1, A2, k2, c2, hs1, hraw1, hx1⟩ := SlV.seg3 hxa hq
  have hzq := hraw1.size
  refine vc_skip ?_
  refine vc_keep [5, 6, 17, 18, 19] rfl ?_
  refine vc_seq ?_
  refine vc_block ?_
  refine vc_sr ?_
  refine vco_at_st (vs := [.bool f1, .slice A1 k1 c1, .slice A2 k2 c2]) tbOk rfl rfl rfl rfl (hra.le hG.le) rfl (by decide) hx1 (by omega) (by omega) fun _ => ?_
  refine vco_alloc el34 rfl ?_
  obtain ⟨ti, hti, htz⟩ := sz34; refine vco_bstore (.inl ⟨rfl, rfl⟩) rfl rfl rfl hti htz rfl rfl rfl ?_
  refine vco_k [5, 6, 8, 17, 18, 19] ?_
  refine vc_sr ?_
  refine vco_run tbOk 1 rfl ?_
  refine vco_call rfl rfl (hG.call (rCanonical_ok (hraw1.le hG.base) (by omega))) ?_
  rintro _ H5 hF5
  have hG5 := hG.framed (ratUp (N + 3)) hF5 fun _ _ h => h.1
  obtain ⟨⟨_, hq5⟩, _⟩ := hF5
  obtain ⟨⟨f5, A51, m51, c51, A52, m52, c52⟩, e5⟩ := hq5.rc
  replace e5 : _ = Value.agg #[.bool f5, .slice A51 m51 c51, .slice A52 m52 c52] := e5
  subst e5
  obtain ⟨hf5, ⟨hm51, hc51, hr51⟩, hm52, hc52, hr52⟩ := hq5.parts
  refine vco_alloc el34 rfl ?_
  obtain ⟨ti, hti, htz⟩ := sz34; refine vco_bstore (.inl ⟨rfl, rfl⟩) rfl rfl rfl hti htz rfl rfl rfl ?_
  refine vco_k [5, 6, 9, 17, 18, 19] ?_
  refine vc_cut1 (fun (t : RC) => put (put (put (put (put (put (emp) 5 (.val (.int .u32 (mm : Int)))) 6 (.val (.slice W (l.take i).length cw))) 9 (.box [.bool t.f, .slice t.A1 t.m1 t.c1, .slice t.A2 t.m2 t.c2])) 17 (.val (.slice A l.length ca))) 18 (.val (.int .i64 (l.length : Int)))) 19 (.val (.int .i64 (i : Int)))) (fun (t : RC) H' => Gro (RatP (N + 3)) 34 3 H H' (.slice W (l.take i).length cw) (l.take i) xs ∧ RawV (rem H' (blk (.slice W (l.take i).length cw))) t.v q (N + 3)) ?_ ?_
  ·
   by_cases h1 : m51 ≤ 1
   ·
    skip
    by_cases h2 : m52 = 1
    ·
     obtain ⟨hld, hd9, hd0⟩ := limbs_lone (x := q.den) (by omega)
     have hdm : q.den * mm ≤ 999999999 * 4 := Nat.mul_le_mul (by omega) hm4
     have hdm0 : 0 < q.den * mm := Nat.mul_pos hd0 hm1
     have hdi : (q.den : Int) * (mm : Int) = ((q.den * mm : Nat) : Int) := by rw [Int.natCast_mul]
     refine vc_sr ?_
     refine vco_run tbOk 3 rfl ?_
     refine vco_cmp true rfl rfl (cle_t (by omega)) ?_
     refine vco_run tbOk 4 rfl ?_
     refine vco_cmp true rfl rfl (ceq_t (by omega)) ?_
     refine vco_run tbOk 1 rfl ?_
     refine vco_k [5, 6, 9, 17, 18, 19, 34] ?_
     refine vc_cond_t rfl ?_
     refine vc_sr ?_
     refine vco_run tbOk 2 rfl ?_
     refine vco_at tbOk rfl rfl rfl rfl rfl (hr52.le (rem_le _ _)) (U_get (l := limbs q.den) (i := 0) (x := q.den) (by rw [hld]; rfl)) (by omega) (by omega) fun _ => ?_
     refine vco_run tbOk 1 rfl ?_
     refine vco_mul rfl rfl ⟨by omega, by omega⟩ ?_
     refine vco_build Tryz.underlying32 el117 rfl rfl rfl rfl rfl rfl rfl ?_
     intro gb hgb
     have hG8 := hG5.ins (ratUp (N + 3)) (whole (cellsL [.int .u32 ((q.den : Int) * (mm : Int)), .int .u32 0]) 117) hgb
     have hgn : ¬ gb ∈ blk (.slice W (l.take i).length cw) := fun hm => hG5.blkne gb hm hgb
     have hrm : rem (ins H5 gb (whole (cellsL [.int .u32 ((q.den : Int) * (mm : Int)), .int .u32 0]) 117)) (blk (.slice W (l.take i).length cw)) = ins (rem H5 (blk (.slice W (l.take i).length cw))) gb (whole (cellsL [.int .u32 ((q.den : Int) * (mm : Int)), .int .u32 0]) 117) := rem_ins_out _ hgn
     have hd8 : LimV (rem (ins H5 gb (whole (cellsL [.int .u32 ((q.den : Int) * (mm : Int)), .int .u32 0]) 117)) (blk (.slice W (l.take i).length cw))) (.slice (some ⟨gb, 0, none⟩) 2 2) [q.den * mm, 0] := by
      refine ⟨_, 2, rfl, Nat.le_refl _, ?_⟩
      rw [hrm]
      have h9 := rd_ins (rem H5 (blk (.slice W (l.take i).length cw))) gb [.int .u32 ((q.den : Int) * (mm : Int)), .int .u32 0] 2 117 true
      rw [hdi] at h9
      rw [hdi]
      exact h9
     have hle8 : Heap.le (rem H5 (blk (.slice W (l.take i).length cw))) (rem (ins H5 gb (whole (cellsL [.int .u32 ((q.den : Int) * (mm : Int)), .int .u32 0]) 117)) (blk (.slice W (l.take i).length cw))) := by
      rw [hrm]; exact Heap.le_ins _ (by rw [rem_out hgn]; exact hgb)
     refine vco_run tbOk 1 rfl ?_
     obtain ⟨ti, hti, htz⟩ := sz32; refine vco_bstore (.inr rfl) rfl rfl rfl hti htz rfl rfl rfl ?_
     refine vco_k [5, 6, 9, 17, 18, 19] ?_
     refine vc_sr ?_
     refine vco_run tbOk 4 rfl ?_
     refine vco_k [5, 6, 9, 17, 18, 19, 46] ?_
     refine vc_cond rfl (fun hb => ?_) (fun hb => ?_)
     ·
      have h3i : (m51 : Int) = 1 := by simpa using hb
      have h3 : m51 = 1 := by omega
      obtain ⟨hln1, hn9, hn0⟩ := limbs_lone (x := q.num.natAbs) (by omega)
      have hnm : q.num.natAbs * mm ≤ 999999999 * 4 := Nat.mul_le_mul (by omega) hm4
      have hni : (q.num.natAbs : Int) * (mm : Int) = ((q.num.natAbs * mm : Nat) : Int) := by rw [Int.natCast_mul]
      generalize ins H5 gb (whole (cellsL [.int .u32 ((q.den : Int) * (mm : Int)), .int .u32 0]) 117) = H8 at *
      refine vc_region rfl ?_
      refine vco_run tbOk 2 rfl ?_
      refine vco_at tbOk rfl rfl rfl rfl rfl ((hr51.le hle8).le (rem_le _ _)) (U_get (l := limbs q.num.natAbs) (i := 0) (x := q.num.natAbs) (by rw [hln1]; rfl)) (by omega) (by omega) fun _ => ?_
      refine vco_run tbOk 1 rfl ?_
      refine vco_mul rfl rfl ⟨by omega, by omega⟩ ?_
      refine vco_build Tryz.underlying32 el117 rfl rfl rfl rfl rfl rfl rfl ?_
      intro gc hgc
      have hG10 := hG8.ins (ratUp (N + 3)) (whole (cellsL [.int .u32 ((q.num.natAbs : Int) * (mm : Int))]) 117) hgc
      have hgn2 : ¬ gc ∈ blk (.slice W (l.take i).length cw) := fun hm => hG8.blkne gc hm hgc
      have hraw10 : RawV (rem (ins H8 gc (whole (cellsL [.int .u32 ((q.num.natAbs : Int) * (mm : Int))]) 117)) (blk (.slice W (l.take i).length cw))) (.agg #[.bool f5, .slice (some ⟨gc, 0, none⟩) 1 1, .slice (some ⟨gb, 0, none⟩) 2 2]) q (N + 3) := by
       rw [rem_ins_out _ hgn2]
       refine ⟨f5, _, _, [q.num.natAbs * mm], [q.den * mm, 0], rfl, ⟨_, 1, rfl, Nat.le_refl _, rd_u1 hni⟩, hd8.le (Heap.le_ins _ (by rw [rem_out hgn2]; exact hgc)), ?_, ?_, by simp, by simp, ?_⟩
       · intro x hx; rw [List.mem_singleton] at hx; omega
       · intro x hx; simp only [List.mem_cons, List.not_mem_nil, or_false] at hx; omega
       · rw [val_one, val_two, frac_scale _ _ _ hm1, hf5, frac_self]
      refine vco_run tbOk 1 rfl ?_
      obtain ⟨ti, hti, htz⟩ := sz32; refine vco_bstore (.inr rfl) rfl rfl rfl hti htz rfl rfl rfl ?_
      refine vco_end ?_
      exact ⟨⟨f5, _, _, _, _, _, _⟩, sub_auto, hG10, hraw10⟩
     ·
      have h3i : ¬ (m51 : Int) = 1 := by simpa using hb
      have hn0 : q.num.natAbs = 0 := limbs_len_zero.1 (by omega)
      have hm0 : m51 = 0 := by omega
      subst hm0
      have hraw8 : RawV (rem (ins H5 gb (whole (cellsL [.int .u32 ((q.den : Int) * (mm : Int)), .int .u32 0]) 117)) (blk (.slice W (l.take i).length cw))) (.agg #[.bool f5, .slice A51 0 c51, .slice (some ⟨gb, 0, none⟩) 2 2]) q (N + 3) := by
       refine ⟨f5, _, _, [], [q.den * mm, 0], rfl, ⟨_, _, rfl, Nat.zero_le _, fun i v h => by simp [U] at h⟩, hd8, (fun x hx => by cases hx), ?_, by simp, by simp, ?_⟩
       · intro x hx; simp only [List.mem_cons, List.not_mem_nil, or_false] at hx; omega
       ·
        have h9 := frac_self q
        rw [hn0, frac_num0] at h9
        rw [show val [] = 0 from rfl, frac_num0]; exact h9.symm
      refine vc_skip ?_
      exact ⟨⟨f5, _, _, _, _, _, _⟩, sub_auto, hG8, hraw8⟩
    ·
     skip
     refine vc_sr ?_
     refine vco_run tbOk 3 rfl ?_
     refine vco_cmp true rfl rfl (cle_t (by omega)) ?_
     refine vco_run tbOk 4 rfl ?_
     refine vco_cmp false rfl rfl (ceq_f (by omega)) ?_
     refine vco_run tbOk 1 rfl ?_
     refine vco_k [5, 6, 9, 17, 18, 19, 34] ?_
     refine vc_cond_f rfl ?_
     refine vc_skip ?_
     exact ⟨⟨f5, _, _, _, _, _, _⟩, sub_auto, hG5, (CanV.raw hq5).mono (by omega)⟩
   ·
    skip
    refine vc_sr ?_
    refine vco_run tbOk 3 rfl ?_
    refine vco_cmp false rfl rfl (cle_f (by omega)) ?_
    refine vco_run tbOk 6 rfl ?_
    refine vco_k [5, 6, 9, 17, 18, 19, 34] ?_
    refine vc_cond_f rfl ?_
    refine vc_skip ?_
    exact ⟨⟨f5, _, _, _, _, _, _⟩, sub_auto, hG5, (CanV.raw hq5).mono (by omega)⟩
  ·
   rintro t H9 ⟨hG9, hraw9⟩
   refine vc_region rfl ?_
   refine vco_run tbOk 2 rfl ?_
   refine vco_build Tryz.underlying26 el34 rfl rfl rfl rfl rfl rfl rfl ?_
   intro gd hgd
   have hG10 := hG9.ins (ratUp (N + 3)) (whole (cellsL [t.v]) 34) hgd
   refine vco_append Tryz.underlying26 el34 rfl rfl hG10.own (rd_ins _ _ _ _ _ _) rfl (one_rat _ _ _ _ _ _ _) (by rw [htl]; omega) (by rw [htl]; omega) ?_
   intro v11 H11 ha11
   have hG11 := hG10.append (ratUp (N + 3)) (k := [q]) (by simp) ha11 (els_one (ratUp (N + 3) _ _ _ _ (rem_mono _ (Heap.le_ins _ hgd)) (show RatP (N + 3) _ [_, _, _] _ from hraw9)) rfl)
   refine vco_run tbOk 1 rfl ?_
   refine vco_end ?_
   refine vc_keep [5, 6, 17, 18, 19] rfl ?_
   refine vc_region rfl ?_
   refine vco_add rfl rfl ⟨by omega, by omega⟩ ?_
   refine vco_run tbOk 1 rfl ?_
   refine vco_end ?_
   exact ⟨i + 1, _, _, by omega, sub_auto, by rw [take_snoc hq]; exact hG11, by omega⟩
 ·
  have hb : l.length ≤ i := by simpa using hb
  obtain rfl : i = l.length := by omega
  rw [List.take_length] at hG
  rw [List.take_length]
  refine vc_exit ?_
  refine vc_keep [6] rfl ?_
  refine vc_sr ?_
  refine vco_run tbOk 2 rfl ?_
  refine vco_k [4] ?_
  refine vc_ret ⟨.inr rfl, _, .tmp rfl (.nil), ?_⟩
  exact ⟨hG.le, _, _, rfl, hG.sl (ratUp (N + 3))⟩
end Go.Eng
