/- EntailCombines: the law's walk. -/
import Derived.Test.YtbbjgagpbffooaaGreatA10
import Derived.Test.YtbbjgagpbffooaaGreatEf2
import Derived.Test.YtbbjgagpbffooaaGreatBr4
import Derived.Test.YtbbjgagpbffooaaGreatEn6
set_option linter.unusedVariables false
namespace Go.Eng
open Go.Proofs Num Lp
/-- What has been added so far. -/
structure Acc24 (fs : List Lin) (m : Int) (x : Nat → Rat) (g : Lin) : Prop where
  pos : NonN fs.length x
  coef : ∀ v, comb fs x v = ((g.coef v : Int) : Rat)
  const : combC fs x + (m : Rat) = ((g.c : Int) : Rat)
  ok : LinOk g
theorem acc0 {fs : List Lin} {m : Int} (h0 : 0 ≤ m) (h1 : m < 5) : Acc24 fs m (fun _ => 0) ⟨m, []⟩ :=
  ⟨fun _ _ => Rat.le_refl, fun v => by
    unfold comb; rw [sumN_eq0 fun i _ => Rat.zero_mul _]; rfl, by
    unfold combC; rw [sumN_eq0 fun i _ => Rat.zero_mul _]; exact Rat.zero_add _,
   ⟨show -1048576 ≤ m ∧ m ≤ 1048576 by omega, by show 0 ≤ 16; omega, fun i t h => by simp at h, fun i a b h => by simp at h⟩⟩
theorem Acc24.add {fs : List Lin} {m : Int} {x : Nat → Rat} {g : Lin} (h : Acc24 fs m x g) {i : Nat} {f : Lin} (hf : fs[i]? = some f) (hk : LinOk (plusL g f)) : Acc24 fs m (fun k => x k + if k = i then 1 else 0) (plusL g f) := by
  have hi := (List.getElem?_eq_some_iff.1 hf).1
  have hn := nth_get hf
  refine ⟨fun k hk => ?_, fun v => ?_, ?_, hk⟩
  · have := h.pos k hk
    split
    · grind
    · grind
  · rw [comb_ws, wsum_add1 hi, ← comb_ws, h.coef, hn, coef_plus, Rat.intCast_add]
  · have h1 := h.const
    rw [combC_ws, wsum_add1 hi, ← combC_ws, hn]
    show _ = ((g.c + f.c : Int) : Rat)
    rw [Rat.intCast_add]; grind
/-- The multipliers: those of the first facts, and of the next one what has been added of it. -/
def mulX (ns : List Int) (i : Nat) (r : Int) (k : Nat) : Rat := if k < i then ((ns.getD k 0 % 4 : Int) : Rat) else if k = i then (r : Rat) else 0
theorem mulX_zero (ns : List Int) : mulX ns 0 0 = fun _ => 0 := by
  funext k; unfold mulX; rw [if_neg (by omega)]; split <;> rfl
theorem mulX_next {ns : List Int} {i : Nat} : mulX ns i (ns.getD i 0 % 4) = mulX ns (i + 1) 0 := by
  funext k; unfold mulX
  by_cases h1 : k < i
  · rw [if_pos h1, if_pos (by omega)]
  · by_cases h2 : k = i
    · rw [if_neg h1, if_pos h2, if_pos (by omega), h2]
    · rw [if_neg h1, if_neg h2, if_neg (by omega)]; split <;> rfl
theorem mulX_one {ns : List Int} {i : Nat} {r : Int} : (fun k => mulX ns i r k + if k = i then 1 else 0) = mulX ns i (r + 1) := by
  funext k; unfold mulX
  by_cases h1 : k < i
  · rw [if_pos h1, if_neg (by omega), if_pos h1]; grind
  · by_cases h2 : k = i
    · rw [if_neg h1, if_pos h2, if_pos h2, if_neg h1, if_pos h2, Rat.intCast_add]; rfl
    · rw [if_neg h1, if_neg h2, if_neg h2, if_neg h1, if_neg h2]; grind
theorem Acc24.few {fs : List Lin} {m : Int} {x : Nat → Rat} {g : Lin} (h : Acc24 fs m x g) (hk : KeptL 6 4 fs) : FewL fs g := fun _ hg => kept_few hk hg
theorem Acc24.ent {fs : List Lin} {m : Int} {x : Nat → Rat} {g : Lin} (h : Acc24 fs m x g) (hm : 0 ≤ m) : Lp.Ent fs g x :=
  ⟨h.pos, h.coef, by
    have h1 := h.const
    have h2 : (0 : Rat) ≤ (m : Rat) := by exact_mod_cast hm
    grind⟩
theorem vco_push2 {P : Program} {n : Nat} {all : Array Oper} {md : Mode} {r : List Oper} {s : St} {H Hb : Heap} {K : St → Heap → Prop} {dst : Option Nat} {ty : TypeId} {pos : String} {after : Array _} {gd : Option (Nat × Bool)}
    {α : Type} {Q : Heap → List Value → α → Prop} {t e sz bytes gb : Nat} {x y : Operand} {z v : Value} {l : List α} {a : α} {xs us : List Value} (up : Up Q) (one : One Q) (ht : P.underlying t = some (.slice e)) (he : ElT P e sz z bytes) (hx : ev s x = some v) (hy : ev s y = some (.slice (some ⟨gb, 0, none⟩) 1 1))
    (hG : Gro Q e sz Hb H v l xs) (hgb : H gb = none) (hq : Q (rem H (blk v)) us a) (hl : us.length = sz) (hb : (l.length + 1) * bytes ≤ 140737488355328) (hml : l.length + 1 ≤ 9223372036854775807)
    (hk : ∀ v' H' ys, Gro Q e sz Hb H' v' (l ++ [a]) ys → Heap.le (rem H (blk v)) (rem H' (blk v')) → VCO P n all md r (putO s dst (.val v')) H' K) (hg : gdB all s gd = some true := by rfl) (nb : md.nb s dst = true := by rfl) : VCO P n all md (⟨dst, .call ⟨.builtin .append, #[x, y], #[t, t]⟩, ty, pos, after, gd⟩ :: r) s (ins H gb (whole us e)) K := by
  have hn : ¬ gb ∈ blk v := fun hm => hG.blkne gb hm hgb
  have hG2 := hG.ins up (whole us e) hgb
  have hle : Heap.le (rem H (blk v)) (rem (ins H gb (whole us e)) (blk v)) := rem_mono _ (Heap.le_ins _ hgb)
  refine vco_append (k := 1) ht he hx hy hG2.own (rd_ins _ _ _ _ _ _) (by rw [Nat.one_mul]; exact hl) (one _ _ _ hq) hb hml (fun v' H' ha => ?_) hg nb
  have hG3 := hG2.append up (k := [a]) rfl ha (els_one (up _ _ _ _ hle hq) hl)
  refine hk v' H' _ hG3 ?_
  have hG4 := hG2.rebase.append up (k := [a]) rfl ha (els_one (up _ _ _ _ hle hq) hl)
  exact hle.trans hG4.base
theorem oneCan : One CanP := fun H vs q h => oneRat _ H vs q (show RatP (szQ q) H vs q from CanV.raw h)
theorem byte_get {H : Heap} {xs : List Value} {l : List Int} {i : Nat} {z : Int} (h : Els (ByteP H) 1 xs l) (hi : l[i]? = some z) : xs[i]? = some (.int .u8 z) ∧ 0 ≤ z ∧ z ≤ 255 := by
  obtain ⟨v, h1, h2, h3⟩ := h.one hi
  have h2 : [v] = [.int .u8 z] := h2
  cases h2; exact ⟨h1, h3⟩
theorem rep_rats {ns : List Int} {n : Nat} : ∀ k, k < n → fn ((List.range n).map (fun k => ((ns.getD k 0 % 4 : Int) : Rat))) k = mulX ns n 0 k := fun k hk => by
  unfold mulX
  rw [if_pos hk]
  exact fn_get (by rw [List.getElem?_map, List.getElem?_range hk]; rfl)
theorem ent_congr {fs : List Lin} {g : Lin} {x y : Nat → Rat} (h : Lp.Ent fs g x) (e : ∀ k, k < fs.length → y k = x k) : Lp.Ent fs g y :=
  ⟨fun i hi => by rw [e i hi]; exact h.pos i hi, fun v => by rw [← h.coef v]; exact sumN_congr fun i hi => by rw [e i hi], by
    have : combC fs y = combC fs x := sumN_congr fun i hi => by rw [e i hi]
    rw [this]; exact h.const⟩
theorem combines_ok {H : Heap} {v mv : Value} {fs : List Lin} {ns : List Int} {mo : Int} (hv : FmV H v fs) (hm : SlV ByteP 1 H mv ns) (h0 : 0 ≤ mo) (h1 : mo ≤ 255) :
  Fn Tryz.prog 4 #[v, mv, .int .u8 mo] H (fun v' H' => Heap.le H H' ∧ v' = .bool true) := by
 obtain ⟨A, c, xs, rfl, hc, hr, hx⟩ := id hv
 obtain ⟨M, cm, xm, rfl, hcm, hrm, hxm⟩ := id hm; refine fn_intro (args := [_, _, _]) Tryz.func4 rfl rfl Tryz.ntmps4 rfl rfl fun w0 => ?_; refine vc_keep [0, 1, 2] rfl ?_; refine vc_sr ?_; refine vr 1 ?_; refine vco_k [0, 1, 2] ?_; refine vc_seq ?_; refine vc_sr ?_; refine vco_call rfl rfl (sane24_ok) ?_; rintro _ H1 ⟨hl1, rfl⟩; refine vr 1 ?_; refine vco_k [0, 1, 2, 17] ?_; refine vc_cond_f rfl ?_; refine vc_skip ?_; refine vc_keep [0, 1, 2] rfl ?_; refine vc_seq ?_; refine vc_sr ?_; refine vr 1 ?_; refine vco_call rfl rfl (usable_ok (gs := []) (hv.le formUp hl1) SlV.nil (by simp)) ?_; rintro _ H3 ⟨hl3, b3, rfl, hb3⟩; have h03 := hl1.trans hl3
 cases b3
 ·
  skip
  refine vr 8 ?_; refine vco_k [0, 1, 2, 27] ?_; refine vc_cond_t rfl ?_; refine vc_sr ?_; refine vr 1 ?_; refine vco_k [6] ?_; refine vc_ret ⟨.inr rfl, _, .tmp rfl (.nil), ?_⟩; exact ⟨h03, rfl⟩
 ·
  skip
  refine vr 8 ?_; refine vco_k [0, 1, 2, 27] ?_; refine vc_cond rfl (fun hb => ?_) (fun hb => ?_)
  ·
   skip
   refine vc_sr ?_; refine vr 1 ?_; refine vco_k [6] ?_; refine vc_ret ⟨.inr rfl, _, .tmp rfl (.nil), ?_⟩; exact ⟨h03, rfl⟩
  ·
   have hu := hb3.1 rfl; have hfo := hu.ok
   have hln : fs.length ≤ ns.length := by simpa using hb
   have h6 := hu.keptF.1; refine vc_skip ?_; refine vc_keep [0, 1, 2] rfl ?_; refine vc_sr ?_; refine vr 1 ?_; refine vco_conv tbOk rfl rfl rfl ⟨by omega, by omega⟩ ?_; refine vco_rem rfl rfl (by omega) (by omega) ?_; refine vco_st tbOk rfl el25 rfl rfl ?_; refine vco_alloc el25 rfl ?_; obtain ⟨ti, hti, htz⟩ := sz25; refine vco_bstore (.inl ⟨rfl, rfl⟩) rfl rfl rfl hti htz rfl rfl rfl ?_; refine vco_k [0, 1, 7] ?_; refine vc_sr ?_; refine vr 1 ?_; refine vco_k [0, 1, 7, 8] ?_; refine vc_seq ?_; refine vc_sr ?_; refine vr 3 ?_; refine vco_k [0, 1, 7, 8, 33, 34] ?_; refine vc_block ?_; refine vc_loop4 (fun (i : Nat) (w : Value) (ys : List Value) (gg : Option Addr × Nat × Lin) => fs.length - i) (fun (i : Nat) (w : Value) (ys : List Value) (gg : Option Addr × Nat × Lin) => put (put (put (put (put (put (emp) 0 (.val (.slice A fs.length c))) 1 (.val (.slice M ns.length cm))) 7 (.box [.int .i64 gg.2.2.c, .slice gg.1 gg.2.2.ts.length gg.2.1])) 8 (.val (w))) 33 (.val (.int .i64 (fs.length : Int)))) 34 (.val (.int .i64 (i : Int)))) (fun (i : Nat) (w : Value) (ys : List Value) (gg : Option Addr × Nat × Lin) H' => Gro CanP 36 3 H3 H' w ((List.range i).map (fun k => ((ns.getD k 0 % 4 : Int) : Rat))) ys ∧ SlV TermP 2 (rem H' (blk w)) (.slice gg.1 gg.2.2.ts.length gg.2.1) gg.2.2.ts ∧ Acc24 fs (mo % 5) (mulX ns i 0) gg.2.2 ∧ i ≤ fs.length) 0 (.slice none 0 0) [] (none, 0, ⟨mo % 5, []⟩) (⟨gro_nil H3, SlV.nil, by rw [mulX_zero]; exact acc0 (by omega) (by omega), Nat.zero_le _⟩) sub_auto ?_
   rintro i w ys gg H4 ⟨hG, hgs, hac, hi⟩; obtain ⟨W, cw, rfl⟩ := hG.form; obtain ⟨E, ce, g⟩ := gg
   simp only at hgs hac
   have hlr : ((List.range i).map (fun k => ((ns.getD k 0 % 4 : Int) : Rat))).length = i := by rw [List.length_map, List.length_range]
   refine vc_sr ?_; refine vr 1 ?_; refine vco_k [0, 1, 7, 8, 33, 34, 35] ?_; refine vc_seq ?_; refine vc_cond rfl (fun hb => ?_) (fun hb => ?_)
   ·
    have him : i < fs.length := by simpa using hb
    obtain ⟨f, hf⟩ : ∃ f, fs[i]? = some f := ⟨_, List.getElem?_eq_getElem him⟩; obtain ⟨B, cb, hfs, hxf⟩ := form_get hx hf; obtain ⟨z, hz⟩ : ∃ z, ns[i]? = some z := ⟨_, List.getElem?_eq_getElem (by omega)⟩; obtain ⟨hzx, hz0, hz1⟩ := byte_get hxm hz
    have hnz : ns.getD i 0 % 4 = z % 4 := by rw [show ns.getD i 0 = z by simp [List.getD, hz]]
    have h04 := h03.trans hG.le; refine vc_skip ?_; refine vc_keep [0, 1, 7, 8, 33, 34] rfl ?_; refine vc_seq ?_; refine vc_block ?_; refine vc_sr ?_; refine vr 2 ?_; refine vco_k [0, 1, 7, 8, 9, 33, 34] ?_; refine vc_sr ?_; refine vr 2 ?_; refine vco_at tbOk rfl rfl rfl rfl rfl (hrm.le h04) (by rw [Int.toNat_natCast]; exact hzx) (by omega) (by omega) fun _ => ?_; refine vco_conv tbOk rfl rfl rfl ⟨by omega, by omega⟩ ?_; refine vco_rem rfl rfl (by omega) (by omega) ?_; refine vr 1 ?_; refine vco_k [0, 1, 7, 8, 9, 10, 33, 34] ?_; refine vc_sr ?_; refine vr 2 ?_; refine vco_call rfl rfl (hG.call (rFromInt_ok (n := z % 4) (by omega) (by omega)).rc) ?_; rintro _ H5 hF5; have hG5 := hG.framed canUp hF5 fun _ _ h => h.1; obtain ⟨⟨hl5, t5, rfl, hq5⟩, _⟩ := hF5; refine vco_build Tryz.underlying26 el36 rfl rfl rfl rfl rfl rfl rfl ?_; intro gb hgb; refine vco_push2 canUp oneCan Tryz.underlying26 el36 rfl rfl hG5 hgb (show CanP _ [_, _, _] _ from hq5) rfl (by rw [hlr]; omega) (by rw [hlr]; omega) ?_; intro v6 H6 y6 hG6 hl6; have hG6 := hG6.cast (show (List.range i).map (fun k => ((ns.getD k 0 % 4 : Int) : Rat)) ++ [((z % 4 : Int) : Rat)] = (List.range (i + 1)).map (fun k => ((ns.getD k 0 % 4 : Int) : Rat)) by rw [List.range_succ, List.map_append, List.map_singleton, hnz]); obtain ⟨W6, cw6, rfl⟩ := hG6.form; have hgs6 := hgs.le termUp ((hl5.trans hl6)); refine vr 1 ?_; refine vco_k [0, 1, 7, 8, 9, 10, 33, 34] ?_; refine vc_block ?_
    refine vc_loop2 (fun (n : Int) (gg : Option Addr × Nat × Lin) => n.toNat) (fun (n : Int) (gg : Option Addr × Nat × Lin) => put (put (put (put (put (put (put (put (emp) 0 (.val (.slice A fs.length c))) 1 (.val (.slice M ns.length cm))) 7 (.box [.int .i64 gg.2.2.c, .slice gg.1 gg.2.2.ts.length gg.2.1])) 8 (.val (.slice W6 ((List.range (i + 1)).map (fun k => ((ns.getD k 0 % 4 : Int) : Rat))).length cw6))) 9 (.val (.int .i64 (i : Int)))) 10 (.val (.int .i64 n))) 33 (.val (.int .i64 (fs.length : Int)))) 34 (.val (.int .i64 (i : Int)))) (fun (n : Int) (gg : Option Addr × Nat × Lin) H' => Gro CanP 36 3 H3 H' (.slice W6 ((List.range (i + 1)).map (fun k => ((ns.getD k 0 % 4 : Int) : Rat))).length cw6) ((List.range (i + 1)).map (fun k => ((ns.getD k 0 % 4 : Int) : Rat))) y6 ∧ SlV TermP 2 (rem H' (blk (.slice W6 ((List.range (i + 1)).map (fun k => ((ns.getD k 0 % 4 : Int) : Rat))).length cw6))) (.slice gg.1 gg.2.2.ts.length gg.2.1) gg.2.2.ts ∧ Acc24 fs (mo % 5) (mulX ns i (z % 4 - n)) gg.2.2 ∧ 0 ≤ n ∧ n ≤ z % 4) (z % 4) (E, ce, g) (⟨hG6, hgs6, by rw [Int.sub_self]; exact hac, by omega, Int.le_refl _⟩) sub_auto ?_; rintro n gg H7 ⟨hG7, hgs7, hac7, hn0, hn1⟩; obtain ⟨E2, ce2, g2⟩ := gg
    simp only at hgs7 hac7
    have hg16 := hac7.ok.len; have h07 := h03.trans hG7.le; refine vc_seq ?_; refine vc_sr ?_; refine vr 2 ?_; refine vco_k [0, 1, 7, 8, 9, 10, 33, 34, 49] ?_; refine vc_cond rfl (fun hb => ?_) (fun hb => ?_)
    ·
     have hnp : 0 < n := by simpa using hb
     refine vc_skip ?_; refine vc_keep [0, 1, 7, 8, 9, 10, 33, 34] rfl ?_; refine vc_seq ?_; refine vc_block ?_; refine vc_sd .drawB [0, 1, 2, 3, 4, 5, 6, 7, 8, 9, 10, 11] follows (by kernel_rfl) ?_; refine vr 3 ?_; refine vco_at_st tbOk rfl rfl rfl rfl (hr.le h07) rfl (by decide) (hxf) (by omega) (by omega) fun _ => ?_; refine vco_callM rfl rfl (hG7.call (eplus_ok (a := g2) (b := f) hgs7 (hfs.le termUp (h03.trans hG7.base)) hac7.ok (hfo.ok i f hf))) (fun _ _ h => h.le fun _ _ k => k.1) ?_; rintro _ H8 hF8; have hG8 := hG7.framed canUp hF8 fun _ _ h => h.1; obtain ⟨⟨hl8, C8, d8, b8, rfl, hs8, hb8⟩, _⟩ := hF8; refine vr 3 ?_; refine vco_alloc el25 rfl ?_; obtain ⟨ti, hti, htz⟩ := sz25; refine vco_bstore (.inl ⟨rfl, rfl⟩) rfl rfl rfl hti htz rfl rfl rfl ?_; refine vr 1 ?_; refine vco_k [0, 1, 7, 8, 9, 10, 11, 12, 33, 34] ?_; refine vc_seq ?_; refine vc_sr ?_; refine vr 2 ?_; refine vco_k [0, 1, 7, 8, 9, 10, 11, 33, 34, 62] ?_; refine vc_cond rfl (fun hb => ?_) (fun hb => ?_)
     ·
      skip
      refine vc_sr ?_; refine vr 1 ?_; refine vco_k [6] ?_; refine vc_ret ⟨.inr rfl, _, .tmp rfl (.nil), ?_⟩; exact ⟨h03.trans hG8.le, rfl⟩
     ·
      have hbt : b8 = true := by simpa using hb
      refine vc_skip ?_; refine vc_keep [0, 1, 7, 8, 9, 10, 11, 33, 34] rfl ?_; refine vc_region rfl ?_; refine vr 1 ?_; obtain ⟨ti, hti, htz⟩ := sz25; refine vco_bstore (.inl ⟨rfl, rfl⟩) rfl rfl rfl hti htz rfl rfl rfl ?_; refine vco_end ?_; refine vc_keep [0, 1, 7, 8, 9, 10, 33, 34] rfl ?_; refine vc_region rfl ?_; refine vr 1 ?_; refine vco_sub rfl rfl ⟨by omega, by omega⟩ ?_; refine vr 1 ?_; refine vco_end ?_; exact ⟨n - 1, (_, _, plusL g2 f), by omega, sub_auto, hG8, hs8, by rw [show z % 4 - (n - 1) = z % 4 - n + 1 by omega, ← mulX_one]; exact hac7.add hf (hb8.1 hbt), by omega, by omega⟩
    ·
     have hn9 : n = 0 := by have h9 : n ≤ 0 := (by simpa using hb); omega
     subst hn9; rw [Int.sub_zero, ← hnz, mulX_next] at hac7; refine vc_exit ?_; refine vc_keep [0, 1, 7, 8, 33, 34] rfl ?_; refine vc_region rfl ?_; refine vco_add rfl rfl ⟨by omega, by omega⟩ ?_; refine vr 1 ?_; refine vco_end ?_; exact ⟨i + 1, _, _, (_, _, _), by omega, sub_auto, hG7, hgs7, hac7, by omega⟩
   ·
    have hb : fs.length ≤ i := by simpa using hb
    obtain rfl : i = fs.length := by omega
    have h04 := h03.trans hG.le; have hgs4 := hgs.le termUp (rem_le _ _); have hps : SlV (RatP 1) 3 H4 (.slice W ((List.range fs.length).map (fun k => ((ns.getD k 0 % 4 : Int) : Rat))).length cw) ((List.range fs.length).map (fun k => ((ns.getD k 0 % 4 : Int) : Rat))) := ints_rat (g := fun k => ns.getD k 0 % 4) (hG.sl canUp) (fun k _ => by omega); have hent := hac.ent (by omega); have hck : CheckE fs g ((List.range fs.length).map (fun k => ((ns.getD k 0 % 4 : Int) : Rat))) := ⟨hfo, hac.ok, ⟨hlr, (ent_congr hent rep_rats).pos⟩, .inl (ent_congr hent rep_rats)⟩; refine vc_exit ?_; refine vc_keep [0, 7, 8] rfl ?_; refine vc_sr ?_; refine vr 2 ?_; refine vco_call rfl rfl (impU_ok (goal := g) (hv.le formUp h04) hgs4 hfo hac.ok (hac.few hu.keptF)) ?_; rintro _ H5 ⟨hl5, A5, k5, c5, b5, rfl, hb5⟩; obtain rfl := hb5.2 (.inl ⟨_, hent⟩); have h05 := h04.trans hl5; refine vr 7 ?_; refine vco_k [0, 7, 8, 14, 15] ?_; refine vc_sr ?_; refine vr 3 ?_; refine vco_call rfl rfl ((echeck_ok (goal := g) ⟨hv.le formUp h05, hps.le (ratUp 1) hl5, by decide⟩ (hgs4.le termUp hl5)).yes hck) ?_; rintro _ H6 ⟨hl6, rfl⟩; refine vr 2 ?_; refine vco_cmp true rfl rfl (ceq_t rfl) ?_; refine vr 5 ?_; refine vco_k [6] ?_; refine vc_ret ⟨.inr rfl, _, .tmp rfl (.nil), ?_⟩; exact ⟨h05.trans hl6, rfl⟩
end Go.Eng
