/- Part 7 of the proof: Tab7, Eng13, Tab8, Ref1, Ref2, Ref3, Ref4, Ref5. -/
import Derived.Test.YtfkeccepnppjnaaGreatA06
/- Walks over package simplex, tableau.go, part 7: price. -/
namespace Go.Eng
open Go.Proofs Num Lp

/-- The costs with the first k rows of the basis taken off. -/
def prc (T : Tab) (f : Nat → Rat) (k j : Nat) : Rat := (if j = T.n then 0 else f j) - sumN k (fun i => f (T.B i) * T.A i j)
theorem prc_succ (T : Tab) (f : Nat → Rat) (k j : Nat) : prc T f (k + 1) j = prc T f k j - f (T.B k) * T.A k j := by
  unfold prc; rw [sumN_succ]; grind
theorem vals_snoc (f : Nat → Rat) (n : Nat) : vals f (n + 1) = vals f n ++ [f n] := by
  unfold vals; rw [List.range_succ, List.map_append]; rfl
theorem vals_ext0 (f : Nat → Rat) (n : Nat) : vals f n ++ [0] = vals (fun j => if j = n then 0 else f j) (n + 1) := by
  rw [vals_snoc, vals_congr (f := fun j => if j = n then 0 else f j) (g := f) (fun j hj => by show (if j = n then 0 else f j) = f j; rw [if_neg (by omega)]), if_pos rfl]
theorem els_cells {α : Type} {P : List Value → α → Prop} {sz : Nat} {xs : List Value} {l : List α} (h : Els P sz xs l) (hp : 0 < sz ∧ ∀ vs a, P vs a → ∀ u, u ∈ vs → u.oneCell' = true) : ∀ u, u ∈ xs → u.oneCell' = true := fun u hu => by
  obtain ⟨i, hi⟩ := List.getElem?_of_mem hu
  have hlt := (List.getElem?_eq_some_iff.1 hi).1
  rw [h.len] at hlt
  have he : i / sz < l.length := Nat.div_lt_of_lt_mul (by rw [Nat.mul_comm]; exact hlt)
  have hq := h.at_ (i / sz) _ (List.getElem?_eq_getElem he)
  refine hp.2 _ _ hq u ?_
  have : (seg xs (i / sz) sz)[i % sz]? = some u := by
    unfold seg
    rw [List.getElem?_take, if_pos (Nat.mod_lt _ hp.1), List.getElem?_drop, Nat.div_add_mod']; exact hi
  exact List.mem_of_getElem? this
theorem numV_one {K : Heap} : 0 < 3 ∧ ∀ vs a, NumV K vs a → ∀ u, u ∈ vs → u.oneCell' = true := ⟨by decide, fun vs a h u hu => by
  obtain ⟨n, d, b, rfl⟩ := h.cells
  simp only [List.mem_cons, List.not_mem_nil, or_false] at hu
  rcases hu with rfl | rfl | rfl <;> rfl⟩
def TG.withC (G : TG) (v : Value) (gc : Nat) : TG := { G with cv := v, cb := [gc] }
/-- New costs. -/
theorem TabV.newC {H : Heap} {G : TG} {L : TL} {T : Tab} (h : TabV H G L T) {H3 : Heap} {v : Value} {gc : Nat} {e : Ent} (hgc : H gc = none) (hle : Heap.le (rem H G.gs) (rem (ins H3 G.g e) (G.withC v gc).gs)) (hs : ∀ q, q ∈ G.gs → H3 q = H q) (h3 : H3 gc ≠ none) (he : e = ⟨(G.withC v gc).cells L.w L.u T.m, 9, 96, true⟩) :
    TabV (ins H3 G.g e) (G.withC v gc) L T := by
  have hne : ∀ q, q ∈ G.gs → q ≠ gc := fun q hq e => h.ne q hq (by rw [e]; exact hgc)
  have hgg : G.g ≠ gc := hne _ G.g_mem
  have hsame : ∀ q, q ∈ G.gs → q ≠ G.g → ins H3 G.g e q = H q := fun q hq hn => by rw [ins_other _ _ hn]; exact hs q hq
  refine ⟨h.n, h.uw, by show ins H3 G.g e G.g = _; rw [ins_same, he], ?_, h.rlen, ?_, fun i p hp => ?_, ?_, h.plus.le natUp hle, h.minus.le intUp hle, h.units.le natUp hle, h.signs.le numUp hle, fun q hq => ?_⟩
  · have hnd := h.nd
    unfold TG.gs at hnd ⊢
    show (G.g :: ([gc] ++ (G.bb ++ G.rg.map (·.1)))).Nodup
    rw [List.nodup_cons, List.nodup_append] at hnd
    have hin : ∀ q, q ∈ G.bb ++ G.rg.map (·.1) → q ∈ G.gs := fun q hq => List.mem_cons_of_mem _ (List.mem_append_right _ hq)
    rw [List.nodup_cons, List.nodup_append]
    refine ⟨fun hm => ?_, (by simp), hnd.2.2.1, fun a ha b hb => ?_⟩
    · rcases List.mem_append.1 hm with hm | hm
      · exact hgg (List.mem_singleton.1 hm)
      · exact hnd.1 (List.mem_append_right _ hm)
    · rw [List.mem_singleton] at ha
      rw [ha]; exact fun e => hne b (hin b hb) e.symm
  · obtain ⟨xs, h1, h2⟩ := h.rows
    exact ⟨xs, h1.le hle, h2⟩
  · have hp' : G.rg[i]? = some p := hp
    exact (h.row i p hp').le hle (hsame _ (TG.rg_mem hp') (fun e => TG.nd_g h.nd (.inr (.inr ⟨i, p, hp', rfl⟩)) e.symm))
  · rcases h.basis with h1 | ⟨gb, cb, sz, h1, h2, h4⟩
    · exact .inl h1
    · have hm : gb ∈ G.bb := by rw [h1]; exact List.mem_singleton.2 rfl
      exact .inr ⟨gb, cb, sz, h1, h2, by rw [hsame _ (TG.bb_mem hm) (fun e => TG.nd_g h.nd (.inr (.inl hm)) e.symm)]; exact h4⟩
  · have : q = gc := List.mem_singleton.1 hq
    rw [this, ins_other _ _ (Ne.symm hgg)]; exact h3
theorem TG.withC_gs {G : TG} {v : Value} {gc q : Nat} (h : q ∈ (G.withC v gc).gs) : q = gc ∨ q ∈ G.gs := by
  unfold TG.gs at h
  rcases List.mem_cons.1 h with h | h
  · exact .inr (by rw [h]; exact G.g_mem)
  · rcases List.mem_append.1 h with h | h
    · exact .inl (List.mem_singleton.1 h)
    · exact .inr (List.mem_cons_of_mem _ (List.mem_append_right _ h))
theorem rem_withC {H H3 : Heap} {G : TG} {v : Value} {gc : Nat} {e : Ent} (hgc : H gc = none) (hle : Heap.le (rem H G.gs) (rem H3 G.gs)) : Heap.le (rem H G.gs) (rem (ins H3 G.g e) (G.withC v gc).gs) := fun q en hq => by
  have hm : ¬ q ∈ G.gs := fun hm => by rw [rem_in hm] at hq; cases hq
  have hqc : q ≠ gc := fun e => by rw [rem_out hm, e, hgc] at hq; cases hq
  obtain ⟨e', h1, h2⟩ := hle q en hq
  refine ⟨e', ?_, h2⟩
  rw [rem_out (fun h => by rcases TG.withC_gs h with h | h; exact hqc h; exact hm h), ins_other _ _ (fun e => hm (by rw [e]; exact G.g_mem))]
  rwa [rem_out hm] at h1

theorem price_ok {H : Heap} {G : TG} {L : TL} {T : Tab} {N : Nat} {v : Value} {f : Nat → Rat} (h : TabV H G L T) (hv : SlV NumV 3 (rem H G.gs) v (vals f L.w)) (hB : ∀ i, i < T.m → T.B i < L.w) (hN : (N : Int) ≤ 549755813888) (hw : (L.w : Int) ≤ 1000000) (hm : (T.m : Int) ≤ 1000000)
    (hf : ∀ j, j < L.w → szQ (f j) ≤ N) (hA : ∀ i, i < T.m → ∀ j, j ≤ L.w → szQ (T.A i j) ≤ N) (hp : ∀ k, k ≤ T.m → ∀ j, j ≤ L.w → szQ (prc T f k j) ≤ N) :
    Fn Tryz.prog 65 #[.pointer (some ⟨G.g, 0, none⟩), v] H (fun _ H' => ∃ cv gc, H gc = none ∧ TabV H' (G.withC cv gc) L { T with c := prc T f T.m } ∧ CostV H' (G.withC cv gc) L { T with c := prc T f T.m } ∧ Heap.le (rem H G.gs) (rem H' (G.withC cv gc).gs)) := by
  obtain ⟨Av, cv0, xv, rfl, hcv0, hrv, hev⟩ := hv
  rw [vals_len] at hcv0
  rw [vals_len]
  have hxvl := hev.len
  rw [vals_len] at hxvl
  have hTn := h.n
  refine fn_intro (args := [_, _]) Tryz.func65 rfl rfl Tryz.ntmps65 rfl rfl fun w0 => ?_
  refine vc_keep [0, 1] rfl ?_
  refine vc_sr ?_
  refine vco_run tbOk 2 rfl ?_
  refine vco_append Tryz.underlying69 el72 rfl rfl (own_nil _ 72 3) (hrv.le (rem_le _ _)) (hxvl) (els_cells hev numV_one) (by omega) (by omega) ?_
  intro v1 H1 ha1
  rw [List.nil_append, Nat.zero_add] at ha1
  obtain ⟨hb1, hs1⟩ := ha1.rem (gs := G.gs) h.ne (fun q _ e => by cases e)
  have hown1 := hb1.own
  refine vco_call rfl rfl (swhole_ok) ?_
  rintro v2 H2 ⟨e2, rfl⟩
  rw [e2]
  refine vco_build Tryz.underlying69 el72 rfl rfl rfl rfl rfl rfl rfl ?_
  intro gz hgz
  have hgzs : ¬ gz ∈ G.gs := fun hm => h.ne gz hm (by rw [← hs1 gz hm]; exact hgz)
  have hz1 : ∀ q, q ∈ G.gs → ins H1 gz (whole (cellsL [N3 0 1 none]) 72) q = H q := fun q hq => by rw [ins_other _ _ (fun e => hgzs (by rw [← e]; exact hq))]; exact hs1 q hq
  refine vco_append Tryz.underlying69 el72 rfl rfl (ha1.own.ins _ hgz) (rd_ins _ _ _ _ _ _) (rfl) (by decide) (by omega) (by omega) ?_
  intro v3 H3 ha3
  obtain ⟨hb3, hs3⟩ := ha3.rem (gs := G.gs) (fun q hq => by rw [hz1 q hq]; exact h.ne q hq) (fun q hq e => by
    rcases ha1.at_ with h9 | ⟨g9, h9, h10⟩
    · rw [h9] at e; cases e
    · rw [h9] at e; cases e; exact h.ne _ hq h10)
  obtain ⟨gc, cc, rfl, hgc3, hgc0⟩ : ∃ gc cc, v3 = .slice (some ⟨gc, 0, none⟩) (L.w + 1) cc ∧ H3 gc = some ⟨xv ++ cellsL [N3 0 1 none], cc * 3, 72, true⟩ ∧ H gc = none := by
    rcases ha3.own.2 with h9 | ⟨g9, c9, h9, h10, _⟩
    · omega
    · refine ⟨g9, c9, h9, h10, ?_⟩
      rcases ha3.at_ with h11 | ⟨g11, h11, h12⟩
      · rw [h9] at h11
        rcases ha1.at_ with h13 | ⟨g13, h13, h14⟩
        · rw [h13] at h11; cases h11
        · rw [h13] at h11; cases h11; exact h14
      · rw [h9] at h11
        cases h11
        have h15 := (none_ins h12).2
        cases hh : H g9 with
        | none => rfl
        | some en => (obtain ⟨e', h16, _⟩ := ha1.le g9 en hh; rw [h15] at h16; cases h16)
  have hs3H : ∀ q, q ∈ G.gs → H3 q = H q := fun q hq => (hs3 q hq).trans (hz1 q hq)
  have hle3 : Heap.le (rem H G.gs) (rem H3 G.gs) := (hb1.le.trans (by rw [rem_ins_out _ hgzs]; exact Heap.le_ins _ (by rw [rem_out hgzs]; exact hgz))).trans hb3.le
  have hst3 : H3 G.g = some ⟨G.cells L.w L.u T.m, 9, 96, true⟩ := by rw [hs3H _ G.g_mem]; exact h.st
  refine vco_run tbOk 1 rfl ?_
  refine vco_hfld tbOk rfl rfl rfl ?_
  obtain ⟨ti, hti, htz⟩ := sz69; refine vco_hst (g := G.g) (o := 7) (.inl rfl) rfl hst3 rfl (by show 7 + 1 ≤ 9; omega) hti htz rfl rfl rfl rfl ?_
  have hle4 := rem_withC (v := .slice (some ⟨gc, 0, none⟩) (L.w + 1) cc) (e := { (⟨G.cells L.w L.u T.m, 9, 96, true⟩ : Ent) with xs := splice (G.cells L.w L.u T.m) 7 [.slice (some ⟨gc, 0, none⟩) (L.w + 1) cc] }) hgc0 hle3
  have h4 := h.newC (v := .slice (some ⟨gc, 0, none⟩) (L.w + 1) cc) hgc0 hle4 hs3H (by rw [hgc3]; simp) rfl
  have hgg : gc ≠ G.g := fun e => h.ne _ G.g_mem (by rw [← e]; exact hgc0)
  have hgc4 : ins H3 G.g { (⟨G.cells L.w L.u T.m, 9, 96, true⟩ : Ent) with xs := splice (G.cells L.w L.u T.m) 7 [.slice (some ⟨gc, 0, none⟩) (L.w + 1) cc] } gc = some ⟨xv ++ cellsL [N3 0 1 none], cc * 3, 72, true⟩ := by rw [ins_other _ _ hgg]; exact hgc3
  generalize ins H3 G.g { (⟨G.cells L.w L.u T.m, 9, 96, true⟩ : Ent) with xs := splice (G.cells L.w L.u T.m) 7 [.slice (some ⟨gc, 0, none⟩) (L.w + 1) cc] } = H4 at hle4 h4 hgc4
  refine vco_k [0, 1] ?_
  have hel4 : Els (NumV (rem H4 (G.withC (.slice (some ⟨gc, 0, none⟩) (L.w + 1) cc) gc).gs)) 3 (xv ++ cellsL [N3 0 1 none]) (vals (prc T f 0) (L.w + 1)) := by
    rw [vals_congr (f := prc T f 0) (g := fun j => if j = L.w then 0 else f j) (fun j _ => by unfold prc; rw [sumN_zero, hTn]; grind), ← vals_ext0]
    exact (hev.mono fun vs a => numUp _ _ vs a hle4).append (els_one (numV_int _ (n := 0) (by decide) (by decide)) rfl)
  obtain ⟨G', hG'⟩ : ∃ G', G' = G.withC (.slice (some ⟨gc, 0, none⟩) (L.w + 1) cc) gc := ⟨_, rfl⟩
  rw [← hG'] at hle4 h4 hel4
  have hgE : G'.g = G.g := by rw [hG']; rfl
  have hc4 : CostV H4 G' L { T with c := prc T f 0 } := ⟨gc, cc, by rw [hG']; rfl, by rw [hG']; rfl, _, _, hgc4, hel4⟩
  have h4' : TabV H4 G' L { T with c := prc T f 0 } := h4.congr rfl rfl (fun _ _ _ _ => rfl) (fun _ _ => rfl)
  obtain ⟨Ab, cb, hbv, _⟩ := h4.self.bv
  have hl8 : cell H4 ((⟨G.g, 0, none⟩ : Addr).add 8) = some (.slice Ab T.m cb) := by rw [← hbv, ← hgE]; exact h4.cell rfl
  refine vc_sr ?_
  refine vco_run tbOk 2 rfl ?_
  refine vco_hfld tbOk rfl rfl rfl ?_
  refine vco_hload tbOk rfl rfl rfl (hl8) ?_
  refine vco_run tbOk 2 rfl ?_
  refine vco_k [0, 1, 17, 18, 19] ?_
  refine vc_block ?_
  refine vc_loop1 (fun (k : Nat) => T.m - k) (fun (k : Nat) => put (put (put (put (put (emp) 0 (.val (.pointer (some ⟨G.g, 0, none⟩)))) 1 (.val (.slice Av L.w cv0))) 17 (.val (.slice Ab T.m cb))) 18 (.val (.int .i64 (T.m : Int)))) 19 (.val (.int .i64 (k : Int)))) (fun (k : Nat) H' => TabV H' G' L { T with c := prc T f k } ∧ CostV H' G' L { T with c := prc T f k } ∧ Heap.le (rem H G.gs) (rem H' G'.gs) ∧ k ≤ T.m) 0 (⟨h4', hc4, hle4, Nat.zero_le _⟩) (by repeat (first | exact sub_emp _ | refine sub_put rfl ?_ | refine sub_put (slot_int (by first | omega | (simp; done))) ?_)) ?_
  rintro k H5 ⟨h5, hc5, hle5, hk5⟩
  obtain ⟨A2, c2, hbv2, hrb2⟩ := h5.self.bv
  rw [hbv] at hbv2
  obtain ⟨rfl, -, rfl⟩ : Ab = A2 ∧ T.m = T.m ∧ cb = c2 := by simpa using hbv2
  refine vc_sr ?_
  refine vco_run tbOk 1 rfl ?_
  refine vco_k [0, 1, 17, 18, 19, 20] ?_
  refine vc_seq ?_
  refine vc_cond rfl (fun hb => ?_) (fun hb => ?_)
  ·
    have hkm : k < T.m := by simpa using hb
    have hBk := hB k hkm
    obtain ⟨pk, hpk⟩ := h5.get (i := k) hkm
    obtain ⟨vs0, _, hn0, hx0⟩ := hev.get (vals_get hBk)
    obtain ⟨n1, d1, b1, rfl⟩ := hn0.cells
    obtain ⟨gc', cc', hcb', hcv', hbc'⟩ := id hc5
    have hl7 : cell H5 ((⟨G.g, 0, none⟩ : Addr).add 7) = some G'.cv := by rw [← hgE]; exact h5.cell rfl
    refine vc_skip ?_
    refine vc_keep [0, 1, 17, 18, 19] rfl ?_
    refine vc_seq ?_
    refine vc_block ?_
    refine vc_sr ?_
    refine vco_run tbOk 1 rfl ?_
    refine vco_at tbOk rfl rfl rfl rfl rfl (hrb2) (by rw [Int.toNat_natCast]; exact basisC_get (B := T.B) hkm) (by omega) (by omega) fun _ => ?_
    refine vco_run tbOk 2 rfl ?_
    refine vco_k [0, 1, 4, 5, 17, 18, 19] ?_
    refine vc_draw .drawC [0, 1, 2, 3, 4, 5, 6, 7, 8, 9, 10] follows (by kernel_rfl) ?_
    refine vco_run tbOk 3 rfl ?_
    refine vco_hfld tbOk rfl rfl rfl ?_
    refine vco_hload tbOk rfl rfl rfl (hl7) ?_
    refine vco_run tbOk 3 rfl ?_
    refine vco_at_st (vs := [.int .i64 n1, .int .i64 d1, .pointer b1]) tbOk rfl rfl rfl rfl ((hrv.le hle5).le (rem_le _ _)) rfl (by decide) (by rw [Int.toNat_natCast]; exact hx0) (by omega) (by omega) fun _ => ?_
    refine vco_callX rfl rfl (by rw [← hgE]; exact red_cost (N := N) h5 hc5 hpk (hn0.le hle5) hN hw (hf _ hBk) (fun j hj => hp k (by omega) j hj) (fun j hj => hA k hkm j hj)) ?_
    rintro v6 H6 ⟨h6, hc6, hle6⟩
    refine vco_end ?_
    refine vc_keep [0, 1, 17, 18, 19] rfl ?_
    refine vc_region rfl ?_
    refine vco_add rfl rfl ⟨by omega, by omega⟩ ?_
    refine vco_run tbOk 1 rfl ?_
    refine vco_end ?_
    exact ⟨k + 1, by omega, (by repeat (first | exact sub_emp _ | refine sub_put rfl ?_ | refine sub_put (slot_int (by first | omega | (simp; done))) ?_)), h6.congr rfl rfl (fun _ _ _ _ => rfl) (fun _ _ => rfl), hc6.congr (fun j _ => prc_succ T f k j), hle5.trans hle6, by omega⟩
  ·
    have hb : T.m ≤ k := by simpa using hb
    obtain rfl : k = T.m := by omega
    refine vc_exit ?_
    refine ⟨.inl rfl, _, .nil, ?_⟩
    exact ⟨_, gc, hgc0, by rw [← hG']; exact h5, by rw [← hG']; exact hc5, by rw [← hG']; exact hle5⟩

end Go.Eng
/- The engine, part 13: drawn regions in which effects leave some cells alone; closures. -/
namespace Go.Eng
open Go

section
variable {P : Program} {n : Nat} {tb : Tb} {all : Array Oper} {s : St} {H : Heap} {md : Mode} {K : St → Heap → Prop} {r : List Oper} {dst : Option Nat} {ty : TypeId} {pos : String} {after : Array Edge} {gd : Option (Nat × Bool)} {kc : Addr → Option Value}

theorem vck_det {op : Op} (v : Value) (hm : isAlloc op = false) (hc : (Mode.drawK kc).cov H) (hg : gdB all s gd = some true) (nb : nbK s dst = true)
    (h : ∀ a w, Vals n s a → (∀ ad u, kc ad = some u → w.cell? ad = some u) → (execOp a.eval ⟨dst, op, ty, pos, after, gd⟩).run P w = .ok (.value v) w) (k : VCO P n all (.drawK kc) r (putO s dst (.val v)) H K) : VCO P n all (.drawK kc) (⟨dst, op, ty, pos, after, gd⟩ :: r) s H K :=
  .detC v rfl hm nb hc (fun a w ha hd => .inl ⟨wanted_of_runs ha (gdB_true (o := ⟨dst, op, ty, pos, after, gd⟩) hg), h a w ha hd⟩) k
theorem vck_move {x : Operand} {v : Value} (hc : (Mode.drawK kc).cov H) (hx : ev s x = some v) (hk : VCO P n all (.drawK kc) r (putO s dst (.val v)) H K) (hg : gdB all s gd = some true := by rfl) (nb : nbK s dst = true := by rfl) : VCO P n all (.drawK kc) (⟨dst, .move x, ty, pos, after, gd⟩ :: r) s H K :=
  vck_det v rfl hc hg nb (fun a w ha _ => by simp [execOp, ev_sound ha hx]) hk
theorem vck_nil {x : Operand} {ad : Addr} (hc : (Mode.drawK kc).cov H) (hx : ev s x = some (.pointer (some ad))) (hk : VCO P n all (.drawK kc) r (putO s dst (.val (.pointer (some ad)))) H K) (hg : gdB all s gd = some true := by rfl) (nb : nbK s dst = true := by rfl) : VCO P n all (.drawK kc) (⟨dst, .nilCheck x, ty, pos, after, gd⟩ :: r) s H K :=
  vck_det _ rfl hc hg nb (fun a w ha _ => by simp [execOp, ev_sound ha hx]) hk
theorem vck_fld {t : TypeId} {x : Operand} {f : Nat} {ad : Addr} {m o z : Nat} {ps : List (Nat × Nat)} (hc : (Mode.drawK kc).cov H) (htb : TbOk P tb) (ht : tb[t]? = some (.st m ps)) (hf : ps[f]? = some (o, z)) (hx : ev s x = some (.pointer (some ad)))
    (hk : VCO P n all (.drawK kc) r (putO s dst (.val (.pointer (some (ad.add o))))) H K) (hg : gdB all s gd = some true := by rfl) (nb : nbK s dst = true := by rfl) : VCO P n all (.drawK kc) (⟨dst, .fieldAddr t x f, ty, pos, after, gd⟩ :: r) s H K :=
  vck_det _ rfl hc hg nb (fun a w ha _ => by
    obtain ⟨fs, ii, hu, h2, h3, _, h4⟩ := htb t _ ht
    obtain ⟨fd, jj, h5, h6, h7, h9, h10⟩ := h4 f _ hf
    have h8 : jj.size ≠ 0 := by rw [h9]; exact h10
    simp only at h6
    simp [execOp, ev_sound ha hx, Instr.fieldAt, run_underlying hu, h5, Instr.sureAddr, fieldPlace_run h7 h8, h6]) hk
theorem vck_load {t : TypeId} {x : Operand} {ad : Addr} {ti : Ti} {v : Value} (hc : (Mode.drawK kc).cov H) (htb : TbOk P tb) (ht : tb[t]? = some ti) (h1 : oneB ti = true) (hx : ev s x = some (.pointer (some ad))) (hv : kc ad = some v)
    (hk : VCO P n all (.drawK kc) r (putO s dst (.val v)) H K) (hg : gdB all s gd = some true := by rfl) (nb : nbK s dst = true := by rfl) : VCO P n all (.drawK kc) (⟨dst, .load t x, ty, pos, after, gd⟩ :: r) s H K :=
  vck_det _ rfl hc hg nb (fun a w ha hd => by simp [execOp, ev_sound ha hx, Instr.loadAt, Instr.sureAddr, run_loadVar_one (htb t _ ht) h1 (hd ad v hv)]) hk
theorem vck_callC {f : Operand} {fid : FuncId} {cap args : List Value} {xs : List Operand} {ts : Array TypeId} {Post : Value → Heap → Prop} (hf : ev s f = some (.func (.func fid) #[] cap.toArray)) (hx : evL s xs = some args)
    (h : Fn P fid (args ++ cap).toArray H Post) (hm : ∀ v H', Post v H' → (Mode.drawK kc).cov H') (hk : ∀ v H', Post v H' → VCO P n all (.drawK kc) r (putO s dst (.val v)) H' K) (hg : gdB all s gd = some true := by rfl) (nb : nbK s dst = true := by rfl) : VCO P n all (.drawK kc) (⟨dst, .call ⟨.value f, xs.toArray, ts⟩, ty, pos, after, gd⟩ :: r) s H K :=
  .effK Post rfl (.inl kd_call) nb (call_ev (cap := cap) hf hx hg h) (.inr hm) fun v H' hp _ => hk v H' hp
theorem vck_build1 {t e bytes : Nat} {x : Operand} {z v : Value} (ht : P.underlying t = some (.slice e)) (he : ElT P e 1 z bytes) (hx : ev s x = some v) (hv : v.cells = #[v])
    (hk : ∀ g, H g = none → VCO P n all (.drawK kc) r (putO s dst (.val (.slice (some ⟨g, 0, none⟩) 1 1))) (ins H g (whole [v] e)) K) (hg : gdB all s gd = some true := by rfl) (nb : nbK s dst = true := by rfl) :
    VCO P n all (.drawK kc) (⟨dst, .buildSlice t 1 #[(0, x)], ty, pos, after, gd⟩ :: r) s H K :=
  .freshK (fun g => .slice (some ⟨g, 0, none⟩) 1 1) [v] e rfl rfl nb (fun a w ha => by
    refine ⟨wanted_of_runs ha (gdB_true (o := ⟨dst, .buildSlice t 1 #[(0, x)], ty, pos, after, gd⟩) hg), ?_⟩
    obtain ⟨i, hi, hz, hsz, _, hzs, _⟩ := he
    have hvs : v.cells.size = 1 := by rw [hv]; rfl
    have hfill : Instr.fill (fun k => some (k * i.size, i.size)) (madeCells z.cells (1 * i.size)) [(0, v)] = some #[v] := by
      have h1 := fill_seq (sz := 1) [v] 0 [] (madeCells z.cells 1).toList (fun u hu => by rw [List.mem_singleton] at hu; rw [hu]; exact hvs) rfl (by simp [size_madeCells])
      simp only [List.nil_append, Array.toArray_toList, List.length_singleton] at h1
      have e1 : cellsL [v] = [v] := by simp [cellsL, hv]
      rw [e1] at h1
      rw [hsz]
      simpa [List.range'] using h1
    have := run_buildS (P := P) (w := w) (t := t) (e := e) (len := 1) (i := i) (z := z) (parts := #[(0, v)]) (cells := #[v]) ht hi hz (by rw [hsz]; decide) (by rw [hsz]; decide) hfill
    simp only [execOp, List.map_toArray, List.map_cons, List.map_nil, ev_sound ha hx, Sem.run_bind, this, Result.andThen_ok, Sem.run_pure]) fun g hg _ => hk g hg
theorem vck_append {t e sz bytes : Nat} {x y : Operand} {z v : Value} {m k c : Nat} {A : Option Addr} {xs news : List Value} (ht : P.underlying t = some (.slice e)) (he : ElT P e sz z bytes) (hx : ev s x = some v) (hy : ev s y = some (.slice A k c)) (ho : Own H v e sz m xs)
    (hr : Rd H A news) (hl : news.length = k * sz) (h1 : ∀ u ∈ news, u.oneCell' = true) (hb : (m + k) * bytes ≤ 140737488355328) (hml : m + k ≤ 9223372036854775807) (hc : (Mode.drawK kc).cov H)
    (hk : ∀ v' H', App H v e sz (m + k) (xs ++ news) v' H' → VCO P n all (.drawK kc) r (putO s dst (.val v')) H' K) (hg : gdB all s gd = some true := by rfl) (nb : nbK s dst = true := by rfl) : VCO P n all (.drawK kc) (⟨dst, .call ⟨.builtin .append, #[x, y], #[t, t]⟩, ty, pos, after, gd⟩ :: r) s H K :=
  .effK (fun v' H' => App H v e sz (m + k) (xs ++ news) v' H') rfl (.inl (by simp [kd, pureCall])) nb (fun a w ha hd => by
    refine ⟨wanted_of_runs ha (gdB_true (o := ⟨dst, .call ⟨.builtin .append, #[x, y], #[t, t]⟩, ty, pos, after, gd⟩) hg), ?_⟩
    obtain ⟨v', w', H', h2, h3, h4, h5⟩ := run_app (P := P) (c := c) hd ht he ho hr hl h1 hb hml ty
    have hex : (execOp a.eval ⟨dst, .call ⟨.builtin .append, #[x, y], #[t, t]⟩, ty, pos, after, gd⟩).run P w = .ok (.value v') w' := by
      simp [execOp, resolve, invoke, builtin, ev_sound ha hx, ev_sound ha hy, h2]
    unfold yields
    rw [hex]
    exact ⟨H', h3, h4, h5⟩) (.inr fun v' H' ha ad u hu => cell_le ha.le (hc ad u hu)) fun v' H' ha _ => hk v' H' ha
theorem hst_ev {t : TypeId} {x y : Operand} {g o sz : Nat} {ent : Ent} {v : Value} {vs : List Value} {ii : TypeInfo} (hx : ev s x = some (.pointer (some ⟨g, o, none⟩))) (hg : H g = some ent) (hown : ent.own = true) (hin : o + sz ≤ ent.xs.length)
    (hii : P.info? t = some ii) (hsz : ii.size = sz) (hy : ev s y = some v) (hv : v.cells = vs.toArray) (hvl : vs.length = sz) (h1 : vs.all oneV = true) (hgd : gdB all s gd = some true) :
    EV P n all ⟨none, .store t x y, ty, pos, after, gd⟩ s H (fun _ H' => H' = ins H g { ent with xs := splice ent.xs o vs }) := fun a w ha hd => by
  refine ⟨wanted_of_runs ha (gdB_true (o := ⟨none, .store t x y, ty, pos, after, gd⟩) hgd), ?_⟩
  obtain ⟨ob, h2, cur, fz, rfl, h3, h4, h5⟩ := hd g ent hg
  have hfz := h5 hown
  subst hfz
  have hcur : cur = cur.toList.toArray := by simp
  have hlen : ent.xs.length ≤ cur.toList.length := by
    rcases Nat.eq_zero_or_pos ent.xs.length with h | h
    · omega
    · have hx := h4 (ent.xs.length - 1) _ (List.getElem?_eq_getElem (by omega))
      have := (Array.getElem?_eq_some_iff.1 hx).1
      simp; omega
  rw [hcur] at h2
  obtain ⟨w', h6, h7, h8, h9, h10, h11, h12⟩ := storeCells_box (P := P) vs cur.toList w o 0 h2 (fun u hu => List.all_eq_true.1 h1 u hu) (by omega)
  have hex : (execOp a.eval ⟨none, .store t x y, ty, pos, after, gd⟩).run P w = .ok .skip w' := by
    simp [execOp, ev_sound ha hx, ev_sound ha hy, Instr.storeAt, Instr.sureAddr, storeVar, sizeOf, typeInfo, hii, hsz, hv, hvl, h6]
  unfold yields
  rw [hex]
  refine ⟨_, rfl, put_block (o := .cells (splice cur.toList (o + 0) vs).toArray ent.elem (0, 0)) hd h7 h8 h9 (by omega) (fun q _ hq => h11 q hq) h12 ⟨_, (0, 0), rfl, ?_, ?_, fun _ => rfl⟩ (.inl ⟨_, hg, hown, hown, rfl, rfl⟩)⟩
  · simp [splice_length, h3]
  · intro q u hq
    have := splice_ext vs ent.xs cur.toList o (fun i w hw => by have := h4 i w hw; simpa using this) (by omega) q u hq
    simpa using this
theorem vck_hst {t : TypeId} {x y : Operand} {g o sz : Nat} {ent : Ent} {v : Value} {vs : List Value} {ii : TypeInfo} (hx : ev s x = some (.pointer (some ⟨g, o, none⟩))) (hg : H g = some ent) (hown : ent.own = true) (hin : o + sz ≤ ent.xs.length)
    (hii : P.info? t = some ii) (hsz : ii.size = sz) (hy : ev s y = some v) (hv : v.cells = vs.toArray) (hvl : vs.length = sz) (h1 : vs.all oneV = true)
    (hk : VCO P n all (.drawK kc) r s (ins H g { ent with xs := splice ent.xs o vs }) K) (hgd : gdB all s gd = some true := by rfl) : VCO P n all (.drawK kc) (⟨none, .store t x y, ty, pos, after, gd⟩ :: r) s H K :=
  .effK _ rfl (.inr rfl) rfl (hst_ev hx hg hown hin hii hsz hy hv hvl h1 hgd) (.inl rfl) fun _ H' hH _ => by rw [hH]; exact hk
/-- A closure. -/
theorem vco_mkfunc {f : FuncId} {xs : List Operand} {cap : List Value} (hx : evL s xs = some cap) (hk : VCO P n all md r (putO s dst (.val (.func (.func f) #[] cap.toArray))) H K) (hg : gdB all s gd = some true := by rfl) (nb : md.nb s dst = true := by rfl) :
    VCO P n all md (⟨dst, .makeFunc (.func f) #[] xs.toArray, ty, pos, after, gd⟩ :: r) s H K :=
  vco_detN _ rfl hg nb (fun a w ha _ => by simp [execOp, evL_sound ha xs cap hx, Instr.makeFunc]) hk
end
end Go.Eng
/- Walks over package simplex, tableau.go, part 8: row, column. -/
namespace Go.Eng
open Go.Proofs Num Lp

/-- The first k columns of a row. -/
def rwk (L : TL) (a : Nat → Rat) (sg : Rat) : Nat → Nat → Rat
  | 0 => fun _ => 0
  | k + 1 => if 0 ≤ L.mZ k then upd (upd (rwk L a sg k) (L.pF k) (a k * sg)) (L.mZ k).toNat (-(a k * sg)) else upd (rwk L a sg k) (L.pF k) (a k * sg)
def rwS (f : Nat → Rat) (rel slack : Int) (sg : Rat) : Nat → Rat := if rel = 1 then upd f slack.toNat sg else if rel = 3 then upd f slack.toNat (-sg) else f
/-- The whole row. -/
def rowF (L : TL) (n : Nat) (a : Nat → Rat) (b : Rat) (rel slack : Int) (unit : Nat) (sg : Rat) : Nat → Rat :=
  upd (upd (rwS (rwk L a sg n) rel slack sg) unit 1) L.w (b * sg)
/-- What a row of a program looks like: coefficients, relation, bound. -/
def RowP (N : Nat) (H : Heap) (vs : List Value) (r : List Rat × Int × Rat) : Prop :=
  ∃ c f u w, vs = [c, .int .i64 r.2.1, .bool f, u, w] ∧ SlV (RatP N) 3 H c r.1 ∧ RawV H (.agg #[.bool f, u, w]) r.2.2 N
theorem rowUp (N : Nat) : Up (RowP N) := fun H H' vs r hl ⟨c, f, u, w, h1, h2, h3⟩ => ⟨c, f, u, w, h1, h2.le (ratUp N) hl, h3.le hl⟩
theorem RowP.cells {N : Nat} {H : Heap} {vs : List Value} {r : List Rat × Int × Rat} (h : RowP N H vs r) : ∃ A c k f A1 m1 c1 A2 m2 c2, vs = [.slice A k c, .int .i64 r.2.1, .bool f, .slice A1 m1 c1, .slice A2 m2 c2] ∧ k = r.1.length := by
  obtain ⟨c, f, u, w, h1, ⟨A, cc, xs, rfl, _⟩, h3⟩ := h
  obtain ⟨f', u', w', l1, l2, e, ⟨A1, c1, rfl, _, _⟩, ⟨A2, c2, rfl, _, _⟩, _⟩ := h3
  have := arr3 (vs := [.bool f, u, w]) e
  simp only [List.cons.injEq, Value.bool.injEq, and_true] at this
  obtain ⟨_, rfl, rfl⟩ := this
  exact ⟨A, cc, _, f, A1, _, c1, A2, _, c2, h1, rfl⟩

theorem column_ok {H : Heap} {gv g w : Nat} {ts : List Value} (hv : cell H ⟨gv, 0, none⟩ = some (.pointer (some ⟨g, 0, none⟩))) (hg : H g = some ⟨.int .i64 (w : Int) :: ts, 9, 96, true⟩) (hne : gv ≠ g) (hw : (w : Int) ≤ 1000000) :
    Fn Tryz.prog 102 #[.pointer (some ⟨gv, 0, none⟩)] H (fun v H' => v = .int .i64 (w : Int) ∧ H' = ins H g ⟨.int .i64 ((w + 1 : Nat) : Int) :: ts, 9, 96, true⟩) := by
  have hc0 : cell H ((⟨g, 0, none⟩ : Addr)) = some (.int .i64 (w : Int)) := by simp [cell, hg]
  have hv' : ∀ e, cell (ins H g e) ⟨gv, 0, none⟩ = some (.pointer (some ⟨g, 0, none⟩)) := fun e => by
    simp only [cell, ins_other _ _ hne] at hv ⊢; exact hv
  refine fn_intro (args := [_]) Tryz.func102 rfl rfl Tryz.ntmps102 rfl rfl fun w0 => ?_
  refine vc_keep [0] rfl ?_
  refine vc_sr ?_
  refine vco_run tbOk 1 rfl ?_
  refine vco_k [0] ?_
  refine vc_sr ?_
  refine vco_hload tbOk rfl rfl rfl (hv) ?_
  refine vco_run tbOk 1 rfl ?_
  refine vco_hfld tbOk rfl rfl rfl ?_
  refine vco_hload tbOk rfl rfl rfl (hc0) ?_
  refine vco_add rfl rfl ⟨by omega, by omega⟩ ?_
  refine vco_run tbOk 1 rfl ?_
  refine vco_hfld tbOk rfl rfl rfl ?_
  obtain ⟨ti, hti, htz⟩ := sz3; refine vco_hst (g := g) (o := 0) (.inl rfl) rfl hg rfl (by show 0 + 1 ≤ (Value.int .i64 (w : Int) :: ts).length; simp) hti htz rfl rfl rfl rfl ?_
  rw [show ({ (⟨.int .i64 (w : Int) :: ts, 9, 96, true⟩ : Ent) with xs := splice (.int .i64 (w : Int) :: ts) 0 [.int .i64 ((w : Int) + 1)] } : Ent) = ⟨.int .i64 ((w + 1 : Nat) : Int) :: ts, 9, 96, true⟩ from rfl]
  refine vco_k [0] ?_
  refine vc_sr ?_
  refine vco_hload tbOk rfl rfl rfl (hv' _) ?_
  refine vco_run tbOk 1 rfl ?_
  refine vco_hfld tbOk rfl rfl rfl ?_
  refine vco_hload tbOk rfl rfl rfl (show cell (ins H g ⟨.int .i64 ((w + 1 : Nat) : Int) :: ts, 9, 96, true⟩) ⟨g, 0, none⟩ = some (.int .i64 ((w + 1 : Nat) : Int)) from by simp [cell, ins]) ?_
  refine vco_sub rfl rfl ⟨by omega, by omega⟩ ?_
  refine vco_run tbOk 1 rfl ?_
  refine vco_k [1] ?_
  refine vc_ret ⟨.inr rfl, _, .tmp rfl (.nil), ?_⟩
  refine ⟨?_, rfl⟩
  show Value.int .i64 (((w + 1 : Nat) : Int) - 1) = _
  rw [show (((w + 1 : Nat) : Int) - 1) = (w : Int) by omega]

end Go.Eng
/- Walks over package amortcostref1, part 1. -/
namespace Go.Eng
open Go.Proofs Num

theorem cut_ok {H : Heap} {u : Value} {l : List Nat} (hu : LimV H u l) (hlt : Lt l) (hm : (l.length : Int) ≤ 17592186044416) :
    Fn Tryz.prog 122 #[u] H (RetN H (val l)) := by
  obtain ⟨A, c, rfl, hc, hr⟩ := hu
  refine fn_intro (args := [_]) Tryz.func122 rfl rfl Tryz.ntmps122 rfl rfl fun w0 => ?_
  refine vc_keep [0] rfl ?_
  refine vc_sr ?_
  refine vco_run tbOk 1 rfl ?_
  refine vco_k [0] ?_
  refine vc_sr ?_
  refine vco_run tbOk 3 rfl ?_
  refine vco_k [0, 3] ?_
  refine vc_seq ?_
  refine vc_block ?_
  refine vc_loop1 (fun (k : Nat) => k) (fun (k : Nat) => put (put (emp) 0 (.val (.slice A l.length c))) 3 (.val (.int .i64 (k : Int)))) (fun (k : Nat) H' => H' = H ∧ k ≤ l.length ∧ val (l.take k) = val l) l.length (⟨rfl, Nat.le_refl _, by simp⟩) (by repeat (first | exact sub_emp _ | refine sub_put rfl ?_ | refine sub_put (slot_int (by first | omega | (simp; done))) ?_)) ?_
  rintro k H1 ⟨rfl, hk, hv⟩
  refine vc_seq ?_
  rcases Nat.eq_zero_or_pos k with hk0 | hk0
  ·
    skip
    refine vc_sr ?_
    refine vco_run tbOk 1 rfl ?_
    refine vco_cmp false rfl rfl (cgt_f (by omega)) ?_
    refine vco_run tbOk 8 rfl ?_
    refine vco_k [0, 3, 15] ?_
    refine vc_cond_f rfl ?_
    refine vc_exit ?_
    refine vc_keep [0, 3] rfl ?_
    refine vc_sr ?_
    refine vco_run tbOk 2 rfl ?_
    refine vco_slice tbOk rfl rfl (.inl ⟨rfl, rfl⟩) (.inr ⟨_, _, rfl, rfl⟩) (by omega) (by omega) ?_
    rw [slice_same]
    refine vco_append Tryz.underlying32 el117 rfl rfl (ownU_nil _) (hr.take k) (by simp [U_length]; omega) (fun u hu => U_one _ u (List.mem_of_mem_take hu)) (by simp; omega) (by simp; omega) ?_
    intro v1 H2 ha
    rw [← U_take, Nat.sub_zero] at ha
    refine vco_run tbOk 1 rfl ?_
    refine vco_k [2] ?_
    refine vc_ret ⟨.inr rfl, _, .tmp rfl (.nil), ?_⟩
    have e := limbs_take hlt hk hv (.inl hk0)
    have h1 := (App.ownU (a := []) (b := l.take k) ha rfl (by simp; omega)).lim
    rw [List.nil_append, ← e] at h1
    exact ⟨ha.le, h1⟩
  ·
    obtain ⟨x, hx⟩ : ∃ x, l[k - 1]? = some x := ⟨_, List.getElem?_eq_getElem (by omega)⟩
    refine vc_sr ?_
    refine vco_run tbOk 1 rfl ?_
    refine vco_cmp true rfl rfl (cgt_t (by omega)) ?_
    refine vco_run tbOk 3 rfl ?_
    refine vco_sub rfl rfl ⟨by omega, by omega⟩ ?_
    refine vco_at tbOk rfl rfl rfl rfl rfl (hr) (U_get (by rw [show ((k : Int) - 1).toNat = k - 1 by omega]; exact hx)) (by omega) (by omega) fun _ => ?_
    refine vco_run tbOk 2 rfl ?_
    refine vco_k [0, 3, 15] ?_
    refine vc_cond rfl (fun hb => ?_) (fun hb => ?_)
    ·
      have hb : x = 0 := by simpa using hb
      refine vc_skip ?_
      refine vc_keep [0, 3] rfl ?_
      refine vc_block ?_
      refine vc_region rfl ?_
      refine vco_run tbOk 1 rfl ?_
      refine vco_sub rfl rfl ⟨by omega, by omega⟩ ?_
      refine vco_run tbOk 1 rfl ?_
      refine vco_end ?_
      exact ⟨k - 1, by omega, (by repeat (first | exact sub_emp _ | refine sub_put rfl ?_ | refine sub_put (slot_int (by first | omega | (simp; done))) ?_)), rfl, by omega, by have := val_take_succ hx; rw [show k - 1 + 1 = k by omega, hb, Nat.mul_zero, Nat.add_zero] at this; rw [← this]; exact hv⟩
    ·
      have hb : x ≠ 0 := by simpa using hb
      refine vc_exit ?_
      refine vc_keep [0, 3] rfl ?_
      refine vc_sr ?_
      refine vco_run tbOk 2 rfl ?_
      refine vco_slice tbOk rfl rfl (.inl ⟨rfl, rfl⟩) (.inr ⟨_, _, rfl, rfl⟩) (by omega) (by omega) ?_
      rw [slice_same]
      refine vco_append Tryz.underlying32 el117 rfl rfl (ownU_nil _) (hr.take k) (by simp [U_length]; omega) (fun u hu => U_one _ u (List.mem_of_mem_take hu)) (by simp; omega) (by simp; omega) ?_
      intro v1 H2 ha
      rw [← U_take, Nat.sub_zero] at ha
      refine vco_run tbOk 1 rfl ?_
      refine vco_k [2] ?_
      refine vc_ret ⟨.inr rfl, _, .tmp rfl (.nil), ?_⟩
      have e := limbs_take hlt hk hv (.inr ⟨x, hx, hb⟩)
      have h1 := (App.ownU (a := []) (b := l.take k) ha rfl (by simp; omega)).lim
      rw [List.nil_append, ← e] at h1
      exact ⟨ha.le, h1⟩

theorem rnat_ok {H : Heap} {u : Value} {l : List Nat} (hu : LimV H u l) (h32 : ∀ x, x ∈ l → x < 4294967296) (hm : (l.length : Int) ≤ 8796093022208) :
    Fn Tryz.prog 119 #[u] H (RetN H (val l)) := by
  obtain ⟨A, c, rfl, hc, hr⟩ := hu
  refine fn_intro (args := [_]) Tryz.func119 rfl rfl Tryz.ntmps119 rfl rfl fun w0 => ?_
  refine vc_keep [0] rfl ?_
  refine vc_sr ?_
  refine vco_run tbOk 1 rfl ?_
  refine vco_k [0] ?_
  refine vc_sr ?_
  refine vco_run tbOk 1 rfl ?_
  refine vco_k [0, 3] ?_
  refine vc_sr ?_
  refine vco_run tbOk 1 rfl ?_
  refine vco_k [0, 3, 4] ?_
  refine vc_seq ?_
  refine vc_sr ?_
  refine vco_run tbOk 1 rfl ?_
  refine vco_k [0, 3, 4, 5] ?_
  refine vc_block ?_
  refine vc_loop4 (fun (k : Nat) (v : Value) (o : List Nat) (cr : Nat) => l.length - k) (fun (k : Nat) (v : Value) (o : List Nat) (cr : Nat) => put (put (put (put (emp) 0 (.val (.slice A l.length c))) 3 (.val (v))) 4 (.val (.int .u64 (cr : Int)))) 5 (.val (.int .i64 (k : Int)))) (fun (k : Nat) (v : Value) (o : List Nat) (cr : Nat) H' => Heap.le H H' ∧ OwnU H' v o ∧ k ≤ l.length ∧ o.length = k ∧ Lt o ∧ cr ≤ 4 ∧ val o + B ^ k * cr = val (l.take k)) 0 _ [] 0 (⟨.refl _, ownU_nil _, by omega, rfl, Lt.nil, by omega, by simp [val]⟩) (by repeat (first | exact sub_emp _ | refine sub_put rfl ?_ | refine sub_put (slot_int (by first | omega | (simp; done))) ?_)) ?_
  rintro k v o cr H1 ⟨hle, hown, hk, hol, hlo, hcr, hv⟩
  obtain ⟨Ao, co, rfl⟩ := Own.form hown
  refine vc_seq ?_
  refine vc_sr ?_
  refine vco_run tbOk 4 rfl ?_
  refine vco_k [0, 3, 4, 5, 9] ?_
  refine vc_cond rfl (fun hb => ?_) (fun hb => ?_)
  ·
    have hb : k < l.length := by simpa using hb
    obtain ⟨p, hp⟩ : ∃ p, l[k]? = some p := ⟨_, List.getElem?_eq_getElem hb⟩
    have hp32 := h32 p (List.mem_of_getElem? hp)
    refine vc_skip ?_
    refine vc_keep [0, 3, 4, 5] rfl ?_
    refine vc_seq ?_
    refine vc_block ?_
    refine vc_sr ?_
    refine vco_run tbOk 3 rfl ?_
    refine vco_at tbOk rfl rfl rfl rfl rfl (hr.le hle) (U_get hp) (by omega) (by omega) fun _ => ?_
    refine vco_conv tbOk rfl rfl rfl ⟨by omega, by omega⟩ ?_
    refine vco_add rfl rfl ⟨by omega, by omega⟩ ?_
    refine vco_run tbOk 1 rfl ?_
    refine vco_k [0, 3, 4, 5] ?_
    refine vc_sr ?_
    refine vco_run tbOk 2 rfl ?_
    refine vco_rem rfl rfl (by omega) (by omega) ?_
    refine vco_conv tbOk rfl rfl rfl ⟨by omega, by omega⟩ ?_
    refine vco_build Tryz.underlying32 el117 rfl rfl rfl rfl rfl rfl rfl ?_
    intro gb hgb
    refine vco_append Tryz.underlying32 el117 rfl rfl (hown.ins _ hgb) (rd_u1 (y := (cr + p) % 1000000000) rfl) (rfl) (U_one _) (by omega) (by omega) ?_
    intro v1 H2 ha
    refine vco_run tbOk 1 rfl ?_
    refine vco_k [0, 3, 4, 5] ?_
    refine vc_region rfl ?_
    refine vco_run tbOk 1 rfl ?_
    refine vco_quo rfl rfl (by omega) (by omega) ⟨by omega, by omega⟩ ?_
    refine vco_run tbOk 1 rfl ?_
    refine vco_end ?_
    refine vc_keep [0, 3, 4, 5] rfl ?_
    refine vc_region rfl ?_
    refine vco_run tbOk 1 rfl ?_
    refine vco_add rfl rfl ⟨by omega, by omega⟩ ?_
    refine vco_run tbOk 1 rfl ?_
    refine vco_end ?_
    have hst := carry_step (s := cr + p) (u := val (l.take (k + 1))) hol hv rfl (val_take_succ hp)
    exact ⟨k + 1, v1, o ++ [(cr + p) % B], (cr + p) / B, by omega, (by repeat (first | exact sub_emp _ | refine sub_put rfl ?_ | refine sub_put (slot_int (by first | omega | (simp; done))) ?_)), (hle.trans (Heap.le_ins _ hgb)).trans ha.le, ha.ownU rfl rfl, by omega, by simp [hol], hlo.snoc (Nat.mod_lt _ B_pos), by rw [B_eq]; omega, hst⟩
  ·
    have hb : l.length ≤ k := by simpa using hb
    obtain rfl : k = l.length := by omega
    rw [List.take_length] at hv
    refine vc_exit ?_
    refine vc_keep [3, 4] rfl ?_
    refine vc_cut2 (fun (v : Value) (o : List Nat) => put (emp) 3 (.val (v))) (fun (v : Value) (o : List Nat) H' => Heap.le H H' ∧ OwnU H' v o ∧ o.length ≤ l.length + 1 ∧ Lt o ∧ val o = val l) ?_ ?_
    ·
      refine vc_sr ?_
      refine vco_run tbOk 2 rfl ?_
      refine vco_k [3, 4, 28] ?_
      refine vc_cond rfl (fun hb => ?_) (fun hb => ?_)
      ·
        have hb : 0 < cr := by simpa using hb
        refine vc_region rfl ?_
        refine vco_run tbOk 2 rfl ?_
        refine vco_conv tbOk rfl rfl rfl ⟨by omega, by omega⟩ ?_
        refine vco_build Tryz.underlying32 el117 rfl rfl rfl rfl rfl rfl rfl ?_
        intro gb hgb
        refine vco_append Tryz.underlying32 el117 rfl rfl (hown.ins _ hgb) (rd_u1 (y := cr) rfl) (rfl) (U_one _) (by omega) (by omega) ?_
        intro v1 H2 ha
        refine vco_run tbOk 1 rfl ?_
        refine vco_end ?_
        exact ⟨v1, o ++ [cr], (by repeat (first | exact sub_emp _ | refine sub_put rfl ?_ | refine sub_put (slot_int (by omega)) ?_)), (hle.trans (Heap.le_ins _ hgb)).trans ha.le, ha.ownU rfl rfl, by simp; omega, hlo.snoc (by rw [B_eq]; omega), by rw [val_snoc, hol]; exact hv⟩
      ·
        have hb : cr = 0 := by simpa using hb
        refine vc_skip ?_
        exact ⟨_, o, (by repeat (first | exact sub_emp _ | refine sub_put rfl ?_ | refine sub_put (slot_int (by omega)) ?_)), hle, hown, by omega, hlo, by rw [hb, Nat.mul_zero] at hv; omega⟩
    ·
      rintro v o H3 ⟨hle, hown, hol, hlo, hv⟩
      refine vc_sr ?_
      refine vco_run tbOk 1 rfl ?_
      refine vco_call rfl rfl (cut_ok hown.lim hlo (by omega)) ?_
      intro v1 H4 hp
      refine vco_run tbOk 1 rfl ?_
      refine vco_k [2] ?_
      refine vc_ret ⟨.inr rfl, _, .tmp rfl (.nil), ?_⟩
      exact ⟨hle.trans hp.le, by have := hp.nat; rwa [hv] at this⟩

theorem limbs_ok {H : Heap} {x : Nat} (hx : x < 18446744073709551616) :
    Fn Tryz.prog 87 #[.int .u64 (x : Int)] H (RetN H x) := by
  refine fn_intro (args := [_]) Tryz.func87 rfl rfl Tryz.ntmps87 rfl rfl fun w0 => ?_
  refine vc_keep [0] rfl ?_
  refine vc_sr ?_
  refine vco_run tbOk 1 rfl ?_
  refine vco_k [0] ?_
  refine vc_sr ?_
  refine vco_run tbOk 1 rfl ?_
  refine vco_k [0, 3] ?_
  refine vc_seq ?_
  refine vc_block ?_
  refine vc_loop3 (fun (y : Nat) (v : Value) (o : List Nat) => y) (fun (y : Nat) (v : Value) (o : List Nat) => put (put (emp) 0 (.val (.int .u64 (y : Int)))) 3 (.val (v))) (fun (y : Nat) (v : Value) (o : List Nat) H' => Heap.le H H' ∧ OwnU H' v o ∧ y ≤ x ∧ o ++ limbs y = limbs x) x (.slice none 0 0) [] (⟨.refl _, ownU_nil _, Nat.le_refl _, rfl⟩) (by repeat (first | exact sub_emp _ | refine sub_put rfl ?_ | refine sub_put (slot_int (by first | omega | (simp; done))) ?_)) ?_
  rintro y v o H1 ⟨hle, hown, hyx, ho⟩
  obtain ⟨A, c, rfl⟩ := Own.form hown
  have hol : o.length ≤ (limbs x).length := by rw [← ho]; simp
  have hxl : (limbs x).length ≤ 3 := limbs_len_le.2 (by rw [B_eq]; omega)
  refine vc_seq ?_
  refine vc_sr ?_
  refine vco_run tbOk 2 rfl ?_
  refine vco_k [0, 3, 5] ?_
  refine vc_cond rfl (fun hb => ?_) (fun hb => ?_)
  ·
    have hb : 0 < y := by simpa using hb
    refine vc_skip ?_
    refine vc_keep [0, 3] rfl ?_
    refine vc_block ?_
    refine vc_sr ?_
    refine vco_run tbOk 2 rfl ?_
    refine vco_rem rfl rfl (by omega) (by omega) ?_
    refine vco_conv tbOk rfl rfl rfl ⟨by omega, by omega⟩ ?_
    refine vco_build Tryz.underlying32 el117 rfl rfl rfl rfl rfl rfl rfl ?_
    intro gb hgb
    refine vco_append Tryz.underlying32 el117 rfl rfl (hown.ins _ hgb) (rd_u1 (emod_cast y 1000000000)) (rfl) (U_one _) (by omega) (by omega) ?_
    intro v1 H2 ha
    refine vco_run tbOk 1 rfl ?_
    refine vco_k [0, 3] ?_
    refine vc_region rfl ?_
    refine vco_run tbOk 1 rfl ?_
    refine vco_quo rfl rfl (by omega) (by omega) ⟨by omega, by omega⟩ ?_
    refine vco_run tbOk 1 rfl ?_
    refine vco_end ?_
    have hy0 : 0 < y := by omega
    rw [limbs_pos hy0] at ho
    exact ⟨y / B, v1, o ++ [y % B], Nat.div_lt_self hy0 (by decide), (by repeat (first | exact sub_emp _ | refine sub_put rfl ?_ | refine sub_put (slot_int (by first | omega | (simp; done))) ?_)), (hle.trans (Heap.le_ins _ hgb)).trans ha.le, ha.ownU rfl rfl, Nat.le_trans (Nat.div_le_self _ _) hyx, by simpa using ho⟩
  ·
    have hb : y = 0 := by simpa using hb
    refine vc_exit ?_
    refine vc_keep [3] rfl ?_
    refine vc_sr ?_
    refine vco_run tbOk 2 rfl ?_
    refine vco_k [2] ?_
    refine vc_ret ⟨.inr rfl, _, .tmp rfl (.nil), ?_⟩
    subst hb
    exact ⟨hle, natV_of (hown.lim) (by rw [show o = limbs x by simpa [limbs_zero] using ho]; exact nrm_limbs x) (by rw [show o = limbs x by simpa [limbs_zero] using ho]; exact val_limbs x)⟩

theorem natCmp_ok {H : Heap} {u v : Value} {x y : Nat} (hx : NatV H u x) (hy : NatV H v y) (hm : ((limbs x).length : Int) ≤ 35184372088832) :
    Fn Tryz.prog 89 #[u, v] H (RetE H (.int .i64 (cmpN x y))) := by
  obtain ⟨A, c, rfl, hc, hr⟩ := hx
  obtain ⟨A', c', rfl, hc', hr'⟩ := hy
  refine fn_intro (args := [_, _]) Tryz.func89 rfl rfl Tryz.ntmps89 rfl rfl fun w0 => ?_
  refine vc_keep [0, 1] rfl ?_
  refine vc_sr ?_
  refine vco_run tbOk 1 rfl ?_
  refine vco_k [0, 1] ?_
  refine vc_seq ?_
  refine vc_sr ?_
  refine vco_run tbOk 5 rfl ?_
  refine vco_k [0, 1, 10] ?_
  refine vc_cond rfl (fun hb => ?_) (fun hb => ?_)
  ·
    have hl : (limbs x).length ≠ (limbs y).length := by simp at hb; omega
    refine vc_seq ?_
    refine vc_sr ?_
    refine vco_run tbOk 5 rfl ?_
    refine vco_k [15] ?_
    refine vc_cond rfl (fun hb => ?_) (fun hb => ?_)
    ·
      simp at hb
      refine vc_sr ?_
      refine vco_run tbOk 1 rfl ?_
      refine vco_k [4] ?_
      refine vc_ret ⟨.inr rfl, _, .tmp rfl (.nil), ?_⟩
      exact ⟨rfl, by rw [cmpN_lt (lt_of_len hb)]; rfl⟩
    ·
      simp at hb
      refine vc_skip ?_
      refine vc_keep [] rfl ?_
      refine vc_sr ?_
      refine vco_run tbOk 1 rfl ?_
      refine vco_k [4] ?_
      refine vc_ret ⟨.inr rfl, _, .tmp rfl (.nil), ?_⟩
      exact ⟨rfl, by rw [cmpN_gt (lt_of_len (by omega))]; rfl⟩
  ·
    have hl : (limbs x).length = (limbs y).length := by simp at hb; omega
    refine vc_skip ?_
    refine vc_keep [0, 1] rfl ?_
    refine vc_seq ?_
    refine vc_sr ?_
    refine vco_run tbOk 2 rfl ?_
    refine vco_sub rfl rfl ⟨by omega, by omega⟩ ?_
    refine vco_run tbOk 1 rfl ?_
    refine vco_k [0, 1, 5] ?_
    refine vc_block ?_
    refine vc_loop1 (fun (k : Nat) => k) (fun (k : Nat) => put (put (put (emp) 0 (.val (.slice A (limbs x).length c))) 1 (.val (.slice A' (limbs y).length c'))) 5 (.val (.int .i64 ((k : Int) - 1)))) (fun (k : Nat) H' => H' = H ∧ k ≤ (limbs x).length ∧ (limbs x).drop k = (limbs y).drop k) (limbs x).length (⟨rfl, Nat.le_refl _, by rw [List.drop_of_length_le (Nat.le_refl _), List.drop_of_length_le (by omega)]⟩) (by repeat (first | exact sub_emp _ | refine sub_put rfl ?_ | refine sub_put (slot_int (by first | omega | (simp; done))) ?_)) ?_
    rintro k H1 ⟨rfl, hk, hd⟩
    refine vc_seq ?_
    refine vc_sr ?_
    refine vco_run tbOk 2 rfl ?_
    refine vco_k [0, 1, 5, 20] ?_
    refine vc_cond rfl (fun hb => ?_) (fun hb => ?_)
    ·
      simp at hb
      obtain ⟨p, hp⟩ : ∃ p, (limbs x)[k - 1]? = some p := ⟨_, List.getElem?_eq_getElem (by omega)⟩
      obtain ⟨q, hq⟩ : ∃ q, (limbs y)[k - 1]? = some q := ⟨_, List.getElem?_eq_getElem (by omega)⟩
      have hj : ((k : Int) - 1).toNat = k - 1 := by omega
      have hd1 : (limbs x).drop (k - 1 + 1) = (limbs y).drop (k - 1 + 1) := by rw [show k - 1 + 1 = k by omega]; exact hd
      refine vc_skip ?_
      refine vc_keep [0, 1, 5] rfl ?_
      refine vc_seq ?_
      refine vc_block ?_
      refine vc_seq ?_
      refine vc_sd .drawB [0, 1, 2, 3, 4, 5, 6, 7, 8] follows (by kernel_rfl) ?_
      refine vco_run tbOk 2 rfl ?_
      refine vco_at tbOk rfl rfl rfl rfl rfl (hr) (by rw [hj]; exact U_get hp) (by omega) (by omega) fun _ => ?_
      refine vco_run tbOk 2 rfl ?_
      refine vco_at tbOk rfl rfl rfl rfl rfl (hr') (by rw [hj]; exact U_get hq) (by omega) (by omega) fun _ => ?_
      refine vco_run tbOk 1 rfl ?_
      refine vco_k [0, 1, 5, 31] ?_
      refine vc_cond rfl (fun hb => ?_) (fun hb => ?_)
      ·
        have hpq : p < q := by simpa using hb
        refine vc_sr ?_
        refine vco_run tbOk 1 rfl ?_
        refine vco_k [4] ?_
        refine vc_ret ⟨.inr rfl, _, .tmp rfl (.nil), ?_⟩
        exact ⟨rfl, by rw [cmpN_lt (by have := val_lt_of (nrm_limbs x).lt hp hq hd1 hpq; rwa [val_limbs, val_limbs] at this)]; rfl⟩
      ·
        have hpq : ¬ p < q := by simpa using hb
        refine vc_skip ?_
        refine vc_keep [0, 1, 5] rfl ?_
        refine vc_sd .drawB [0, 1, 2, 3, 4, 5, 6, 7, 8] follows (by kernel_rfl) ?_
        refine vco_run tbOk 2 rfl ?_
        refine vco_at tbOk rfl rfl rfl rfl rfl (hr) (by rw [hj]; exact U_get hp) (by omega) (by omega) fun _ => ?_
        refine vco_run tbOk 2 rfl ?_
        refine vco_at tbOk rfl rfl rfl rfl rfl (hr') (by rw [hj]; exact U_get hq) (by omega) (by omega) fun _ => ?_
        refine vco_run tbOk 1 rfl ?_
        refine vco_k [0, 1, 5, 40] ?_
        refine vc_cond rfl (fun hb => ?_) (fun hb => ?_)
        ·
          have hqp : q < p := by simpa using hb
          refine vc_sr ?_
          refine vco_run tbOk 1 rfl ?_
          refine vco_k [4] ?_
          refine vc_ret ⟨.inr rfl, _, .tmp rfl (.nil), ?_⟩
          exact ⟨rfl, by rw [cmpN_gt (by have := val_lt_of (nrm_limbs y).lt hq hp hd1.symm hqp; rwa [val_limbs, val_limbs] at this)]; rfl⟩
        ·
          have hqp : ¬ q < p := by simpa using hb
          refine vc_skip ?_
          refine vc_keep [0, 1, 5] rfl ?_
          refine vc_region rfl ?_
          refine vco_run tbOk 1 rfl ?_
          refine vco_sub rfl rfl ⟨by omega, by omega⟩ ?_
          refine vco_run tbOk 1 rfl ?_
          refine vco_end ?_
          obtain rfl : p = q := by omega
          exact ⟨k - 1, by omega, (by repeat (first | exact sub_emp _ | refine sub_put rfl ?_ | refine sub_put (slot_int (by first | omega | (simp; done))) ?_)), rfl, by omega, drop_step (by omega) hp hq hd⟩
    ·
      simp at hb
      refine vc_exit ?_
      refine vc_keep [] rfl ?_
      refine vc_sr ?_
      refine vco_run tbOk 1 rfl ?_
      refine vco_k [4] ?_
      refine vc_ret ⟨.inr rfl, _, .tmp rfl (.nil), ?_⟩
      obtain rfl : k = 0 := by omega
      have : x = y := by rw [← val_limbs x, ← val_limbs y]; simpa using congrArg val hd
      exact ⟨rfl, by rw [this, cmpN_eq]; rfl⟩

end Go.Eng
/- Walks over package amortcostref1, part 2. -/
namespace Go.Eng
open Go.Proofs Num

theorem getD_lt {l : List Nat} (h : Lt l) (k : Nat) : (l[k]?).getD 0 < 1000000000 := by
  cases hq : l[k]? with
  | none => simp
  | some z => have := h.get hq; rw [B_eq] at this; simpa using this
theorem getD_some {l : List Nat} {k e : Nat} (he : e = (l[k]?).getD 0) (h : k < l.length) : l[k]? = some e := by
  rw [List.getElem?_eq_getElem h] at he ⊢; simp at he; rw [he]
theorem getD_none {l : List Nat} {k e : Nat} (he : e = (l[k]?).getD 0) (h : l.length ≤ k) : e = 0 := by
  rw [he, List.getElem?_eq_none h]; rfl

theorem natAdd_ok {H : Heap} {u v : Value} {x y : Nat} (hx : NatV H u x) (hy : NatV H v y) (hm : ((limbs x).length : Int) ≤ 8796093022208) (hm' : ((limbs y).length : Int) ≤ 8796093022208) :
    Fn Tryz.prog 88 #[u, v] H (RetN H (x + y)) := by
  obtain ⟨A, c, rfl, hc, hr⟩ := hx
  obtain ⟨A', c', rfl, hc', hr'⟩ := hy
  have hla := (nrm_limbs x).lt
  have hlb := (nrm_limbs y).lt
  obtain ⟨M, hM⟩ : ∃ M, M = max (limbs x).length (limbs y).length := ⟨_, rfl⟩
  refine fn_intro (args := [_, _]) Tryz.func88 rfl rfl Tryz.ntmps88 rfl rfl fun w0 => ?_
  refine vc_keep [0, 1] rfl ?_
  refine vc_sr ?_
  refine vco_run tbOk 1 rfl ?_
  refine vco_k [0, 1] ?_
  refine vc_sr ?_
  refine vco_run tbOk 1 rfl ?_
  refine vco_k [0, 1, 5] ?_
  refine vc_sr ?_
  refine vco_run tbOk 1 rfl ?_
  refine vco_k [0, 1, 5, 6] ?_
  refine vc_seq ?_
  refine vc_sr ?_
  refine vco_run tbOk 1 rfl ?_
  refine vco_k [0, 1, 5, 6, 7] ?_
  refine vc_block ?_
  refine vc_loop4 (fun (k : Nat) (v : Value) (o : List Nat) (cr : Nat) => M + 1 - k) (fun (k : Nat) (v : Value) (o : List Nat) (cr : Nat) => put (put (put (put (put (emp) 0 (.val (.slice A (limbs x).length c))) 1 (.val (.slice A' (limbs y).length c'))) 5 (.val (v))) 6 (.val (.int .u32 (cr : Int)))) 7 (.val (.int .i64 (k : Int)))) (fun (k : Nat) (v : Value) (o : List Nat) (cr : Nat) H' => Heap.le H H' ∧ OwnU H' v o ∧ k ≤ M + 1 ∧ o.length = k ∧ Lt o ∧ cr ≤ 1 ∧ val o + B ^ k * cr = val ((limbs x).take k) + val ((limbs y).take k) ∧ (k = M + 1 → cr = 0 ∧ B ^ M ≤ val o)) 0 _ [] 0 (⟨.refl _, ownU_nil _, by omega, rfl, Lt.nil, by omega, by simp [val], by omega⟩) (by repeat (first | exact sub_emp _ | refine sub_put rfl ?_ | refine sub_put (slot_int (by first | omega | (simp; done))) ?_)) ?_
  rintro k v o cr H1 ⟨hle, hown, hk, hol, hlo, hcr, hv, hM1⟩
  obtain ⟨Ao, co, rfl⟩ := Own.form hown
  refine vc_cut0 (put (put (put (put (put (emp) 0 (.val (.slice A (limbs x).length c))) 1 (.val (.slice A' (limbs y).length c'))) 5 (.val (.slice Ao o.length co))) 6 (.val (.int .u32 (cr : Int)))) 7 (.val (.int .i64 (k : Int)))) (fun  H' => H' = H1 ∧ k ≤ M ∧ (k < (limbs x).length ∨ k < (limbs y).length ∨ 0 < cr)) ?_ ?_
  ·
    by_cases hka : k < (limbs x).length
    ·
      skip
      refine vc_sr ?_
      refine vco_run tbOk 3 rfl ?_
      refine vco_cmp true rfl rfl (clt_t (by omega)) ?_
      refine vco_run tbOk 10 rfl ?_
      refine vco_k [0, 1, 5, 6, 7, 22] ?_
      refine vc_cond_t rfl ?_
      refine vc_skip ?_
      exact ⟨(by repeat (first | exact sub_emp _ | refine sub_put rfl ?_ | refine sub_put (slot_int (by first | omega | (simp; done))) ?_)), rfl, by omega, .inl hka⟩
    ·
      by_cases hkb : k < (limbs y).length
      skip
      ·
        skip
        refine vc_sr ?_
        refine vco_run tbOk 3 rfl ?_
        refine vco_cmp false rfl rfl (clt_f (by omega)) ?_
        refine vco_run tbOk 4 rfl ?_
        refine vco_cmp true rfl rfl (clt_t (by omega)) ?_
        refine vco_run tbOk 5 rfl ?_
        refine vco_k [0, 1, 5, 6, 7, 22] ?_
        refine vc_cond_t rfl ?_
        refine vc_skip ?_
        exact ⟨(by repeat (first | exact sub_emp _ | refine sub_put rfl ?_ | refine sub_put (slot_int (by first | omega | (simp; done))) ?_)), rfl, by omega, .inr (.inl hkb)⟩
      ·
        skip
        refine vc_sr ?_
        refine vco_run tbOk 3 rfl ?_
        refine vco_cmp false rfl rfl (clt_f (by omega)) ?_
        refine vco_run tbOk 4 rfl ?_
        refine vco_cmp false rfl rfl (clt_f (by omega)) ?_
        refine vco_run tbOk 5 rfl ?_
        refine vco_k [0, 1, 5, 6, 7, 22] ?_
        refine vc_cond rfl (fun hb => ?_) (fun hb => ?_)
        ·
          have hb : 0 < cr := by simpa using hb
          refine vc_skip ?_
          exact ⟨(by repeat (first | exact sub_emp _ | refine sub_put rfl ?_ | refine sub_put (slot_int (by first | omega | (simp; done))) ?_)), rfl, by omega, .inr (.inr hb)⟩
        ·
          have hb : cr = 0 := by simpa using hb
          refine vc_exit ?_
          refine vc_keep [5] rfl ?_
          refine vc_sr ?_
          refine vco_run tbOk 2 rfl ?_
          refine vco_k [4] ?_
          refine vc_ret ⟨.inr rfl, _, .tmp rfl (.nil), ?_⟩
          subst hb
          rw [Nat.mul_zero, Nat.add_zero, List.take_of_length_le (by omega), List.take_of_length_le (by omega), val_limbs, val_limbs] at hv
          refine ⟨hle, natV_of hown.lim (last_pos hlo hol ?_) hv⟩
          rcases Nat.eq_zero_or_pos k with e | e
          · exact .inl e
          · right
            by_cases h1 : k = M + 1
            · have := (hM1 h1).2
              rw [show k - 1 = M by omega]; exact this
            · have h2 : k = M := by omega
              rw [hv]
              rcases Nat.le_total (limbs x).length (limbs y).length with h3 | h3
              · have h4 : k = (limbs y).length := by omega
                have h5 := limbs_low (y := y) (Nat.pos_of_ne_zero fun e0 => by rw [limbs_len_zero.2 e0] at h4; omega)
                rw [h4]; omega
              · have h4 : k = (limbs x).length := by omega
                have h5 := limbs_low (y := x) (Nat.pos_of_ne_zero fun e0 => by rw [limbs_len_zero.2 e0] at h4; omega)
                rw [h4]; omega
  ·
    rintro H2 ⟨rfl, hkM, hcond⟩
    obtain ⟨da, hda⟩ : ∃ e, e = ((limbs x)[k]?).getD 0 := ⟨_, rfl⟩
    obtain ⟨db, hdb⟩ : ∃ e, e = ((limbs y)[k]?).getD 0 := ⟨_, rfl⟩
    have hdaB : da < 1000000000 := by rw [hda]; exact getD_lt hla k
    have hdbB : db < 1000000000 := by rw [hdb]; exact getD_lt hlb k
    refine vc_seq ?_
    refine vc_block ?_
    refine vc_sr ?_
    refine vco_run tbOk 2 rfl ?_
    refine vco_k [0, 1, 5, 7, 8] ?_
    refine vc_cut1 (fun (sv : Int) => put (put (put (put (put (emp) 0 (.val (.slice A (limbs x).length c))) 1 (.val (.slice A' (limbs y).length c'))) 5 (.val (.slice Ao o.length co))) 7 (.val (.int .i64 (k : Int)))) 8 (.val (.int .u32 sv))) (fun (sv : Int) H' => H' = H2 ∧ sv = (cr : Int) + da) ?_ ?_
    ·
      refine vc_sr ?_
      refine vco_run tbOk 4 rfl ?_
      refine vco_k [0, 1, 5, 7, 8, 29] ?_
      refine vc_cond rfl (fun hb => ?_) (fun hb => ?_)
      ·
        have hb : k < (limbs x).length := by simpa using hb
        have hz := getD_some hda hb
        refine vc_region rfl ?_
        refine vco_run tbOk 3 rfl ?_
        refine vco_at tbOk rfl rfl rfl rfl rfl (hr.le hle) (U_get hz) (by omega) (by omega) fun _ => ?_
        refine vco_add rfl rfl ⟨by omega, by omega⟩ ?_
        refine vco_run tbOk 1 rfl ?_
        refine vco_end ?_
        exact ⟨(cr : Int) + da, (by repeat (first | exact sub_emp _ | refine sub_put rfl ?_ | refine sub_put (slot_int (by first | omega | (simp; done))) ?_)), rfl, rfl⟩
      ·
        have hb : (limbs x).length ≤ k := by simpa using hb
        have hz := getD_none hda hb
        refine vc_skip ?_
        exact ⟨(cr : Int), (by repeat (first | exact sub_emp _ | refine sub_put rfl ?_ | refine sub_put (slot_int (by first | omega | (simp; done))) ?_)), rfl, by omega⟩
    ·
      rintro sv H3 ⟨rfl, hsv⟩
      refine vc_cut1 (fun (sv2 : Int) => put (put (put (put (put (emp) 0 (.val (.slice A (limbs x).length c))) 1 (.val (.slice A' (limbs y).length c'))) 5 (.val (.slice Ao o.length co))) 7 (.val (.int .i64 (k : Int)))) 8 (.val (.int .u32 sv2))) (fun (sv2 : Int) H' => H' = H3 ∧ sv2 = (cr : Int) + da + db) ?_ ?_
      ·
        refine vc_sr ?_
        refine vco_run tbOk 4 rfl ?_
        refine vco_k [0, 1, 5, 7, 8, 39] ?_
        refine vc_cond rfl (fun hb => ?_) (fun hb => ?_)
        ·
          have hb : k < (limbs y).length := by simpa using hb
          have hz := getD_some hdb hb
          refine vc_region rfl ?_
          refine vco_run tbOk 3 rfl ?_
          refine vco_at tbOk rfl rfl rfl rfl rfl (hr'.le hle) (U_get hz) (by omega) (by omega) fun _ => ?_
          refine vco_add rfl rfl ⟨by omega, by omega⟩ ?_
          refine vco_run tbOk 1 rfl ?_
          refine vco_end ?_
          exact ⟨sv + db, (by repeat (first | exact sub_emp _ | refine sub_put rfl ?_ | refine sub_put (slot_int (by first | omega | (simp; done))) ?_)), rfl, by omega⟩
        ·
          have hb : (limbs y).length ≤ k := by simpa using hb
          have hz := getD_none hdb hb
          refine vc_skip ?_
          exact ⟨sv, (by repeat (first | exact sub_emp _ | refine sub_put rfl ?_ | refine sub_put (slot_int (by first | omega | (simp; done))) ?_)), rfl, by omega⟩
      ·
        rintro sv2 H4 ⟨rfl, hsv2⟩
        refine vc_sr ?_
        refine vco_run tbOk 1 rfl ?_
        refine vco_quo rfl rfl (by omega) (by omega) ⟨by omega, by omega⟩ ?_
        refine vco_run tbOk 1 rfl ?_
        refine vco_k [0, 1, 5, 6, 7, 8] ?_
        refine vc_region rfl ?_
        refine vco_run tbOk 2 rfl ?_
        refine vco_rem rfl rfl (by omega) (by omega) ?_
        refine vco_build Tryz.underlying32 el117 rfl rfl rfl rfl rfl rfl rfl ?_
        intro gb hgb
        refine vco_append Tryz.underlying32 el117 rfl rfl (hown.ins _ hgb) (rd_u1 (y := (cr + da + db) % 1000000000) (by omega)) (rfl) (U_one _) (by omega) (by omega) ?_
        intro v1 H5 ha
        refine vco_run tbOk 1 rfl ?_
        refine vco_end ?_
        refine vc_keep [0, 1, 5, 6, 7] rfl ?_
        refine vc_region rfl ?_
        refine vco_run tbOk 1 rfl ?_
        refine vco_add rfl rfl ⟨by omega, by omega⟩ ?_
        refine vco_run tbOk 1 rfl ?_
        refine vco_end ?_
        have hst := carry_step (s := cr + da + db) (a := cr) (b := da + db) (u := val ((limbs x).take (k + 1)) + val ((limbs y).take (k + 1))) hol hv (by omega) (by rw [val_take_getD, val_take_getD, ← hda, ← hdb, Nat.mul_add]; omega)
        refine ⟨k + 1, v1, o ++ [(cr + da + db) % B], (cr + da + db) / 1000000000, by omega, (by repeat (first | exact sub_emp _ | refine sub_put rfl ?_ | refine sub_put (slot_int (by first | omega | (simp; done))) ?_)), (hle.trans (Heap.le_ins _ hgb)).trans ha.le, ha.ownU rfl rfl, by omega, by simp [hol], hlo.snoc (Nat.mod_lt _ B_pos), by omega, hst, fun e => ?_⟩
        have h1 := getD_none hda (by omega)
        have h2 := getD_none hdb (by omega)
        obtain rfl : k = M := by omega
        have h3 : cr = 1 := by omega
        subst h1 h2 h3
        rw [val_snoc, hol, show (1 + 0 + 0) % B = 1 from rfl, show (1 + 0 + 0) / 1000000000 = 0 from rfl]
        exact ⟨rfl, by omega⟩

end Go.Eng
/- Walks over package amortcostref1, part 3. -/
namespace Go.Eng
open Go.Proofs Num

theorem natSub_ok {H : Heap} {u v : Value} {x y : Nat} (hx : NatV H u x) (hy : NatV H v y) (hyx : y ≤ x) (hm : ((limbs x).length : Int) ≤ 8796093022208) :
    Fn Tryz.prog 90 #[u, v] H (RetN H (x - y)) := by
  obtain ⟨A, c, rfl, hc, hr⟩ := hx
  obtain ⟨A', c', rfl, hc', hr'⟩ := hy
  have hla := (nrm_limbs x).lt
  have hlb := (nrm_limbs y).lt
  have hl := limbs_len_mono hyx
  refine fn_intro (args := [_, _]) Tryz.func90 rfl rfl Tryz.ntmps90 rfl rfl fun w0 => ?_
  refine vc_keep [0, 1] rfl ?_
  refine vc_sr ?_
  refine vco_run tbOk 1 rfl ?_
  refine vco_k [0, 1] ?_
  refine vc_sr ?_
  refine vco_run tbOk 2 rfl ?_
  refine vco_make Tryz.underlying32 el117 rfl rfl rfl (by omega) (by omega) (by omega) (by omega) ?_
  intro g hg
  rw [show (((limbs x).length : Int)).toNat = (limbs x).length from by omega, made_uent']
  have hrg := fun e => hr.le (Heap.le_ins (g := g) e hg)
  have hrg' := fun e => hr'.le (Heap.le_ins (g := g) e hg)
  refine vco_run tbOk 1 rfl ?_
  refine vco_k [0, 1, 5] ?_
  refine vc_sr ?_
  refine vco_run tbOk 1 rfl ?_
  refine vco_k [0, 1, 5, 6] ?_
  refine vc_seq ?_
  refine vc_sr ?_
  refine vco_run tbOk 1 rfl ?_
  refine vco_k [0, 1, 5, 6, 7] ?_
  refine vc_block ?_
  refine vc_loop3 (fun (k : Nat) (o : List Nat) (br : Nat) => (limbs x).length - k) (fun (k : Nat) (o : List Nat) (br : Nat) => put (put (put (put (put (emp) 0 (.val (.slice A (limbs x).length c))) 1 (.val (.slice A' (limbs y).length c'))) 5 (.val (.slice (some ⟨g, 0, none⟩) (limbs x).length (limbs x).length))) 6 (.val (.int .u32 (br : Int)))) 7 (.val (.int .i64 (k : Int)))) (fun (k : Nat) (o : List Nat) (br : Nat) H' => H' = ins H g (uent o (limbs x).length) ∧ k ≤ (limbs x).length ∧ o.length = (limbs x).length ∧ Lt o ∧ br ≤ 1 ∧ val ((limbs x).take k) + B ^ k * br = val (o.take k) + val ((limbs y).take k)) 0 _ 0 (⟨rfl, by omega, by simp, Lt.replicate _, by omega, by simp [val]⟩) (by repeat (first | exact sub_emp _ | refine sub_put rfl ?_ | refine sub_put (slot_int (by first | omega | (simp; done))) ?_)) ?_
  rintro k o br H1 ⟨rfl, hk, hol, hlo, hbr, hv⟩
  refine vc_seq ?_
  refine vc_sr ?_
  refine vco_run tbOk 4 rfl ?_
  refine vco_k [0, 1, 5, 6, 7, 15] ?_
  refine vc_cond rfl (fun hb => ?_) (fun hb => ?_)
  ·
    have hb : k < (limbs x).length := by simpa using hb
    obtain ⟨d, hd⟩ : ∃ d, (limbs x)[k]? = some d := ⟨_, List.getElem?_eq_getElem hb⟩
    have hdB := hla.get hd
    rw [B_eq] at hdB
    obtain ⟨e, he⟩ : ∃ e, e = ((limbs y)[k]?).getD 0 := ⟨_, rfl⟩
    have heB : e < 1000000000 := by rw [he]; exact getD_lt hlb k
    refine vc_skip ?_
    refine vc_keep [0, 1, 5, 6, 7] rfl ?_
    refine vc_seq ?_
    refine vc_block ?_
    refine vc_sr ?_
    refine vco_run tbOk 2 rfl ?_
    refine vco_k [0, 1, 5, 7, 8] ?_
    refine vc_cut1 (fun (sv : Int) => put (put (put (put (put (emp) 0 (.val (.slice A (limbs x).length c))) 1 (.val (.slice A' (limbs y).length c'))) 5 (.val (.slice (some ⟨g, 0, none⟩) (limbs x).length (limbs x).length))) 7 (.val (.int .i64 (k : Int)))) 8 (.val (.int .u32 sv))) (fun (sv : Int) H' => H' = ins H g (uent o (limbs x).length) ∧ sv = (br : Int) + e) ?_ ?_
    ·
      refine vc_sr ?_
      refine vco_run tbOk 4 rfl ?_
      refine vco_k [0, 1, 5, 7, 8, 22] ?_
      refine vc_cond rfl (fun hb => ?_) (fun hb => ?_)
      ·
        have hb : k < (limbs y).length := by simpa using hb
        have hz := getD_some he hb
        refine vc_region rfl ?_
        refine vco_run tbOk 3 rfl ?_
        refine vco_at tbOk rfl rfl rfl rfl rfl (hrg' _) (U_get hz) (by omega) (by omega) fun _ => ?_
        refine vco_add rfl rfl ⟨by omega, by omega⟩ ?_
        refine vco_run tbOk 1 rfl ?_
        refine vco_end ?_
        exact ⟨(br : Int) + e, (by repeat (first | exact sub_emp _ | refine sub_put rfl ?_ | refine sub_put (slot_int (by first | omega | (simp; done))) ?_)), rfl, rfl⟩
      ·
        have hb : (limbs y).length ≤ k := by simpa using hb
        have hz := getD_none he hb
        refine vc_skip ?_
        exact ⟨(br : Int), (by repeat (first | exact sub_emp _ | refine sub_put rfl ?_ | refine sub_put (slot_int (by first | omega | (simp; done))) ?_)), rfl, by omega⟩
    ·
      rintro sv H4 ⟨rfl, hsv⟩
      refine vc_sr ?_
      refine vco_run tbOk 2 rfl ?_
      refine vco_at tbOk rfl rfl rfl rfl rfl (hrg _) (U_get hd) (by omega) (by omega) fun _ => ?_
      refine vco_run tbOk 2 rfl ?_
      refine vco_k [0, 1, 5, 7, 8, 34] ?_
      refine vc_cond rfl (fun hb => ?_) (fun hb => ?_)
      ·
        have hb : sv ≤ d := by simpa using hb
        refine vc_region rfl ?_
        refine vco_run tbOk 4 rfl ?_
        refine vco_at tbOk rfl rfl rfl rfl rfl (hrg _) (U_get hd) (by omega) (by omega) fun _ => ?_
        refine vco_run tbOk 1 rfl ?_
        refine vco_sub rfl rfl ⟨by omega, by omega⟩ ?_
        obtain ⟨ti, hti, htz⟩ := sz117; refine vco_set (.inl rfl) tbOk rfl rfl rfl (by omega) (by omega) (ins_same _ _ _) rfl (by rw [uent_len]; omega) hti htz (fun _ => rfl) rfl rfl rfl fun _ => ?_
        refine vco_run tbOk 1 rfl ?_
        refine vco_end ?_
        refine vc_keep [0, 1, 5, 6, 7] rfl ?_
        refine vc_region rfl ?_
        refine vco_run tbOk 1 rfl ?_
        refine vco_add rfl rfl ⟨by omega, by omega⟩ ?_
        refine vco_run tbOk 1 rfl ?_
        refine vco_end ?_
        have hst := sub_step (o := o.take k) (s := d - br - e) (br' := 0) (d := d) (e := e) (by simp; omega) hv (by omega) (val_take_succ hd) (show val ((limbs y).take (k + 1)) = val ((limbs y).take k) + B ^ k * e by rw [val_take_getD, ← he])
        rw [← take_set_succ (by omega)] at hst
        exact ⟨k + 1, o.set k (d - br - e), 0, by omega, (by repeat (first | exact sub_emp _ | refine sub_put rfl ?_ | refine sub_put (slot_int (by first | omega | (simp; done))) ?_)), by rw [set_uent (y := d - br - e) (by omega)]; rfl, by omega, by simp [hol], hlo.set (by rw [B_eq]; omega), by omega, hst⟩
      ·
        have hb : (d : Int) < sv := by simpa using hb
        refine vc_region rfl ?_
        refine vco_run tbOk 4 rfl ?_
        refine vco_at tbOk rfl rfl rfl rfl rfl (hrg _) (U_get hd) (by omega) (by omega) fun _ => ?_
        refine vco_add rfl rfl ⟨by omega, by omega⟩ ?_
        refine vco_run tbOk 1 rfl ?_
        refine vco_sub rfl rfl ⟨by omega, by omega⟩ ?_
        obtain ⟨ti, hti, htz⟩ := sz117; refine vco_set (.inl rfl) tbOk rfl rfl rfl (by omega) (by omega) (ins_same _ _ _) rfl (by rw [uent_len]; omega) hti htz (fun _ => rfl) rfl rfl rfl fun _ => ?_
        refine vco_run tbOk 1 rfl ?_
        refine vco_end ?_
        refine vc_keep [0, 1, 5, 6, 7] rfl ?_
        refine vc_region rfl ?_
        refine vco_run tbOk 1 rfl ?_
        refine vco_add rfl rfl ⟨by omega, by omega⟩ ?_
        refine vco_run tbOk 1 rfl ?_
        refine vco_end ?_
        have hst := sub_step (o := o.take k) (s := d + 1000000000 - br - e) (br' := 1) (d := d) (e := e) (by simp; omega) hv (by rw [B_eq]; omega) (val_take_succ hd) (show val ((limbs y).take (k + 1)) = val ((limbs y).take k) + B ^ k * e by rw [val_take_getD, ← he])
        rw [← take_set_succ (by omega)] at hst
        exact ⟨k + 1, o.set k (d + 1000000000 - br - e), 1, by omega, (by repeat (first | exact sub_emp _ | refine sub_put rfl ?_ | refine sub_put (slot_int (by first | omega | (simp; done))) ?_)), by rw [set_uent (y := d + 1000000000 - br - e) (by omega)]; rfl, by omega, by simp [hol], hlo.set (by rw [B_eq]; omega), by omega, hst⟩
  ·
    have hb : (limbs x).length ≤ k := by simpa using hb
    obtain rfl : k = (limbs x).length := by omega
    rw [List.take_length, List.take_of_length_le hl, val_limbs, val_limbs, List.take_of_length_le (by omega)] at hv
    have hvo := val_lt hlo
    rw [hol] at hvo
    have hbr0 : br = 0 := by
      rcases Nat.eq_zero_or_pos br with h|h
      · exact h
      · obtain rfl : br = 1 := by omega
        omega
    refine vc_exit ?_
    refine vc_keep [5] rfl ?_
    refine vc_sr ?_
    refine vco_run tbOk 1 rfl ?_
    refine vco_call rfl rfl (cut_ok (lim_uent _ _ o _ _ hol.symm (Nat.le_refl _)) hlo (by omega)) ?_
    intro v1 H4 hp
    refine vco_run tbOk 1 rfl ?_
    refine vco_k [4] ?_
    refine vc_ret ⟨.inr rfl, _, .tmp rfl (.nil), ?_⟩
    exact ⟨(Heap.le_ins _ hg).trans hp.le, by have := hp.nat; rwa [show val o = x - y by rw [hbr0] at hv; omega] at this⟩

theorem natMul_ok {H : Heap} {u v : Value} {x y : Nat} (hx : NatV H u x) (hy : NatV H v y) (hm : ((limbs x).length : Int) < 8796093022208) (hm' : ((limbs y).length : Int) < 8796093022208) :
    Fn Tryz.prog 86 #[u, v] H (RetN H (x * y)) := by
  obtain ⟨A, c, rfl, hc, hr⟩ := hx
  obtain ⟨A', c', rfl, hc', hr'⟩ := hy
  have hla := (nrm_limbs x).lt
  have hlb := (nrm_limbs y).lt
  refine fn_intro (args := [_, _]) Tryz.func86 rfl rfl Tryz.ntmps86 rfl rfl fun w0 => ?_
  refine vc_keep [0, 1] rfl ?_
  refine vc_sr ?_
  refine vco_run tbOk 1 rfl ?_
  refine vco_k [0, 1] ?_
  refine vc_sr ?_
  refine vco_run tbOk 4 rfl ?_
  refine vco_add rfl rfl ⟨by omega, by omega⟩ ?_
  refine vco_add rfl rfl ⟨by omega, by omega⟩ ?_
  refine vco_make Tryz.underlying32 el117 rfl rfl rfl (by omega) (by omega) (by omega) (by omega) ?_
  intro g hg
  rw [show (((limbs x).length : Int) + ((limbs y).length : Int) + 1).toNat = ((limbs x).length + (limbs y).length + 1) from by omega, made_uent']
  have hrg := fun e => hr.le (Heap.le_ins (g := g) e hg)
  have hrg' := fun e => hr'.le (Heap.le_ins (g := g) e hg)
  refine vco_run tbOk 1 rfl ?_
  refine vco_k [0, 1, 5] ?_
  refine vc_seq ?_
  refine vc_sr ?_
  refine vco_run tbOk 1 rfl ?_
  refine vco_k [0, 1, 5, 6] ?_
  refine vc_block ?_
  refine vc_loop2 (fun (i : Nat) (o : List Nat) => (limbs x).length - i) (fun (i : Nat) (o : List Nat) => put (put (put (put (emp) 0 (.val (.slice A (limbs x).length c))) 1 (.val (.slice A' (limbs y).length c'))) 5 (.val (.slice (some ⟨g, 0, none⟩) ((limbs x).length + (limbs y).length + 1) ((limbs x).length + (limbs y).length + 1)))) 6 (.val (.int .i64 (i : Int)))) (fun (i : Nat) (o : List Nat) H' => H' = ins H g (uent o ((limbs x).length + (limbs y).length + 1)) ∧ i ≤ (limbs x).length ∧ o.length = ((limbs x).length + (limbs y).length + 1) ∧ Lt o ∧ Zer o (i + (limbs y).length) ∧ val o = val ((limbs x).take i) * y) 0 _ (⟨rfl, by omega, by simp, Lt.replicate _, zer_replicate _ _, by simp [val, val_replicate]⟩) (by repeat (first | exact sub_emp _ | refine sub_put rfl ?_ | refine sub_put (slot_int (by first | omega | (simp; done))) ?_)) ?_
  rintro i o H1 ⟨rfl, hi, hol, hlo, hz, hv⟩
  refine vc_seq ?_
  refine vc_sr ?_
  refine vco_run tbOk 4 rfl ?_
  refine vco_k [0, 1, 5, 6, 19] ?_
  refine vc_cond rfl (fun hb => ?_) (fun hb => ?_)
  ·
    have hb : i < (limbs x).length := by simpa using hb
    obtain ⟨d, hd⟩ : ∃ d, (limbs x)[i]? = some d := ⟨_, List.getElem?_eq_getElem hb⟩
    have hdB := hla.get hd
    rw [B_eq] at hdB
    refine vc_skip ?_
    refine vc_keep [0, 1, 5, 6] rfl ?_
    refine vc_seq ?_
    refine vc_block ?_
    refine vc_sr ?_
    refine vco_run tbOk 1 rfl ?_
    refine vco_k [0, 1, 5, 6, 7] ?_
    refine vc_sr ?_
    refine vco_run tbOk 1 rfl ?_
    refine vco_k [0, 1, 5, 6, 7, 8] ?_
    refine vc_block ?_
    refine vc_loop3 (fun (j : Nat) (o2 : List Nat) (cr : Nat) => (limbs y).length + 1 - j) (fun (j : Nat) (o2 : List Nat) (cr : Nat) => put (put (put (put (put (put (emp) 0 (.val (.slice A (limbs x).length c))) 1 (.val (.slice A' (limbs y).length c'))) 5 (.val (.slice (some ⟨g, 0, none⟩) ((limbs x).length + (limbs y).length + 1) ((limbs x).length + (limbs y).length + 1)))) 6 (.val (.int .i64 (i : Int)))) 7 (.val (.int .u64 (cr : Int)))) 8 (.val (.int .i64 (j : Int)))) (fun (j : Nat) (o2 : List Nat) (cr : Nat) H' => H' = ins H g (uent o2 ((limbs x).length + (limbs y).length + 1)) ∧ j ≤ (limbs y).length + 1 ∧ o2.length = ((limbs x).length + (limbs y).length + 1) ∧ Lt o2 ∧ cr < 1000000000 ∧ Zer o2 (i + (limbs y).length + 1) ∧ (j ≤ (limbs y).length → Zer o2 (i + (limbs y).length)) ∧ (j = (limbs y).length + 1 → cr = 0) ∧ val o2 + B ^ (i + j) * cr = val ((limbs x).take i) * y + B ^ i * d * val ((limbs y).take j)) 0 o 0 (⟨rfl, by omega, hol, hlo, by omega, fun t z ht => hz t z (by omega), fun _ => hz, by omega, by simp [val, hv]⟩) (by repeat (first | exact sub_emp _ | refine sub_put rfl ?_ | refine sub_put (slot_int (by first | omega | (simp; done))) ?_)) ?_
    rintro j o2 cr H1 ⟨rfl, hj, hol2, hlo2, hcr, hz2, hz3, hj1, hv2⟩
    refine vc_cut0 (put (put (put (put (put (put (emp) 0 (.val (.slice A (limbs x).length c))) 1 (.val (.slice A' (limbs y).length c'))) 5 (.val (.slice (some ⟨g, 0, none⟩) ((limbs x).length + (limbs y).length + 1) ((limbs x).length + (limbs y).length + 1)))) 6 (.val (.int .i64 (i : Int)))) 7 (.val (.int .u64 (cr : Int)))) 8 (.val (.int .i64 (j : Int)))) (fun  H' => H' = ins H g (uent o2 ((limbs x).length + (limbs y).length + 1)) ∧ j ≤ (limbs y).length) ?_ ?_
    ·
      by_cases hjb : j < (limbs y).length
      ·
        skip
        refine vc_sr ?_
        refine vco_run tbOk 3 rfl ?_
        refine vco_cmp true rfl rfl (clt_t (by omega)) ?_
        refine vco_run tbOk 4 rfl ?_
        refine vco_k [0, 1, 5, 6, 7, 8, 29] ?_
        refine vc_cond_t rfl ?_
        refine vc_skip ?_
        exact ⟨(by repeat (first | exact sub_emp _ | refine sub_put rfl ?_ | refine sub_put (slot_int (by first | omega | (simp; done))) ?_)), rfl, by omega⟩
      ·
        skip
        refine vc_sr ?_
        refine vco_run tbOk 3 rfl ?_
        refine vco_cmp false rfl rfl (clt_f (by omega)) ?_
        refine vco_run tbOk 4 rfl ?_
        refine vco_k [0, 1, 5, 6, 7, 8, 29] ?_
        refine vc_cond rfl (fun hb => ?_) (fun hb => ?_)
        ·
          have hb : 0 < cr := by simpa using hb
          refine vc_skip ?_
          exact ⟨(by repeat (first | exact sub_emp _ | refine sub_put rfl ?_ | refine sub_put (slot_int (by first | omega | (simp; done))) ?_)), rfl, by omega⟩
        ·
          have hb : cr = 0 := by simpa using hb
          subst hb
          rw [List.take_of_length_le (l := limbs y) (i := j) (by omega), val_limbs, Nat.mul_zero, Nat.add_zero] at hv2
          refine vc_exit ?_
          refine vc_keep [0, 1, 5, 6] rfl ?_
          refine vc_region rfl ?_
          refine vco_run tbOk 1 rfl ?_
          refine vco_add rfl rfl ⟨by omega, by omega⟩ ?_
          refine vco_run tbOk 1 rfl ?_
          refine vco_end ?_
          refine ⟨i + 1, o2, by omega, (by repeat (first | exact sub_emp _ | refine sub_put rfl ?_ | refine sub_put (slot_int (by first | omega | (simp; done))) ?_)), rfl, by omega, hol2, hlo2, by rw [Nat.add_right_comm]; exact hz2, ?_⟩
          rw [val_take_succ hd, Nat.add_mul]
          omega
    ·
      rintro H4 ⟨rfl, hjl⟩
      obtain ⟨p, hp⟩ : ∃ p, p = ((limbs y)[j]?).getD 0 := ⟨_, rfl⟩
      have hpB : p < 1000000000 := by rw [hp]; exact getD_lt hlb j
      obtain ⟨e, he⟩ : ∃ e, o2[i + j]? = some e := ⟨_, List.getElem?_eq_getElem (by omega)⟩
      have heB := hlo2.get he
      rw [B_eq] at heB
      have hij : ((i : Int) + (j : Int)).toNat = i + j := by omega
      have hdm : d * p ≤ 999999999 * 999999999 := Nat.mul_le_mul (by omega) (by omega)
      have hdm' : (d : Int) * (p : Int) = ((d * p : Nat) : Int) := by simp
      refine vc_seq ?_
      refine vc_block ?_
      refine vc_sr ?_
      refine vco_run tbOk 4 rfl ?_
      refine vco_add rfl rfl ⟨by omega, by omega⟩ ?_
      refine vco_at tbOk rfl rfl rfl rfl rfl (rd_uent _ _ _ _) (by rw [hij]; exact U_get he) (by omega) (by omega) fun _ => ?_
      refine vco_conv tbOk rfl rfl rfl ⟨by omega, by omega⟩ ?_
      refine vco_add rfl rfl ⟨by omega, by omega⟩ ?_
      refine vco_run tbOk 1 rfl ?_
      refine vco_k [0, 1, 5, 6, 7, 8] ?_
      refine vc_cut1 (fun (sv : Int) => put (put (put (put (put (put (emp) 0 (.val (.slice A (limbs x).length c))) 1 (.val (.slice A' (limbs y).length c'))) 5 (.val (.slice (some ⟨g, 0, none⟩) ((limbs x).length + (limbs y).length + 1) ((limbs x).length + (limbs y).length + 1)))) 6 (.val (.int .i64 (i : Int)))) 7 (.val (.int .u64 sv))) 8 (.val (.int .i64 (j : Int)))) (fun (sv : Int) H' => H' = ins H g (uent o2 ((limbs x).length + (limbs y).length + 1)) ∧ sv = ((d * p + e + cr : Nat) : Int)) ?_ ?_
      ·
        refine vc_sr ?_
        refine vco_run tbOk 4 rfl ?_
        refine vco_k [0, 1, 5, 6, 7, 8, 44] ?_
        refine vc_cond rfl (fun hb => ?_) (fun hb => ?_)
        ·
          have hb : j < (limbs y).length := by simpa using hb
          have hp2 := getD_some hp hb
          refine vc_draw .drawB [0, 1, 2, 3, 4, 5, 6, 7, 8, 9, 10, 11, 12, 13] follows (by kernel_rfl) ?_
          refine vco_run tbOk 3 rfl ?_
          refine vco_at tbOk rfl rfl rfl rfl rfl (hrg _) (U_get hd) (by omega) (by omega) fun _ => ?_
          refine vco_conv tbOk rfl rfl rfl ⟨by omega, by omega⟩ ?_
          refine vco_run tbOk 2 rfl ?_
          refine vco_at tbOk rfl rfl rfl rfl rfl (hrg' _) (U_get hp2) (by omega) (by omega) fun _ => ?_
          refine vco_conv tbOk rfl rfl rfl ⟨by omega, by omega⟩ ?_
          refine vco_mul rfl rfl ⟨by omega, by omega⟩ ?_
          refine vco_add rfl rfl ⟨by omega, by omega⟩ ?_
          refine vco_run tbOk 1 rfl ?_
          refine vco_end ?_
          exact ⟨((d * p + e + cr : Nat) : Int), (by repeat (first | exact sub_emp _ | refine sub_put rfl ?_ | refine sub_put (slot_int (by first | omega | (simp; done))) ?_)), rfl, rfl⟩
        ·
          have hb : (limbs y).length ≤ j := by simpa using hb
          have hp2 := getD_none hp hb
          have hdp : d * p = 0 := by rw [hp2, Nat.mul_zero]
          refine vc_skip ?_
          exact ⟨((d * p + e + cr : Nat) : Int), (by repeat (first | exact sub_emp _ | refine sub_put rfl ?_ | refine sub_put (slot_int (by first | omega | (simp; done))) ?_)), rfl, rfl⟩
      ·
        rintro sv H4 ⟨rfl, hsv⟩
        refine vc_sr ?_
        refine vco_run tbOk 3 rfl ?_
        refine vco_add rfl rfl ⟨by omega, by omega⟩ ?_
        refine vco_run tbOk 1 rfl ?_
        refine vco_rem rfl rfl (by omega) (by omega) ?_
        refine vco_conv tbOk rfl rfl rfl ⟨by omega, by omega⟩ ?_
        obtain ⟨ti, hti, htz⟩ := sz117; refine vco_set (.inl rfl) tbOk rfl rfl rfl (by omega) (by omega) (ins_same _ _ _) rfl (by rw [uent_len]; omega) hti htz (fun _ => rfl) rfl rfl rfl fun _ => ?_
        refine vco_k [0, 1, 5, 6, 7, 8] ?_
        refine vc_region rfl ?_
        refine vco_run tbOk 1 rfl ?_
        refine vco_quo rfl rfl (by omega) (by omega) ⟨by omega, by omega⟩ ?_
        refine vco_run tbOk 1 rfl ?_
        refine vco_end ?_
        refine vc_keep [0, 1, 5, 6, 7, 8] rfl ?_
        refine vc_region rfl ?_
        refine vco_run tbOk 1 rfl ?_
        refine vco_add rfl rfl ⟨by omega, by omega⟩ ?_
        refine vco_run tbOk 1 rfl ?_
        refine vco_end ?_
        refine ⟨j + 1, o2.set (i + j) ((d * p + e + cr) % B), (d * p + e + cr) / 1000000000, by omega, (by repeat (first | exact sub_emp _ | refine sub_put rfl ?_ | refine sub_put (slot_int (by first | omega | (simp; done))) ?_)), by rw [set_uent (y := (d * p + e + cr) % B) (by rw [B_eq]; omega), hij], by omega, by simp [hol2], hlo2.set (Nat.mod_lt _ B_pos), by omega, hz2.set (by omega), fun h => (hz3 (by omega)).set (by omega), fun h => ?_, ?_⟩
        · have h1 := getD_none hp (by omega)
          have h2 := hz3 (by omega) (i + j) e (by omega) he
          subst h1 h2
          omega
        · rw [val_take_getD, ← hp]
          exact mul_step he hv2 rfl
  ·
    have hb : (limbs x).length ≤ i := by simpa using hb
    obtain rfl : i = (limbs x).length := by omega
    rw [List.take_length, val_limbs] at hv
    refine vc_exit ?_
    refine vc_keep [5] rfl ?_
    refine vc_sr ?_
    refine vco_run tbOk 1 rfl ?_
    refine vco_call rfl rfl (cut_ok (lim_uent _ _ o _ _ hol.symm (Nat.le_refl _)) hlo (by omega)) ?_
    intro v1 H4 hp
    refine vco_run tbOk 1 rfl ?_
    refine vco_k [4] ?_
    refine vc_ret ⟨.inr rfl, _, .tmp rfl (.nil), ?_⟩
    exact ⟨(Heap.le_ins _ hg).trans hp.le, by have := hp.nat; rwa [hv] at this⟩

theorem natSmall_ok {H : Heap} {u : Value} {l : List Nat} {m : Nat} (hu : LimV H u l) (hl : Lt l) (hm : m < 1000000000) (hm0 : 0 < m) (hs : (l.length : Int) ≤ 8796093022208) :
    Fn Tryz.prog 138 #[u, .int .u64 (m : Int)] H (fun v H' => Heap.le H H' ∧ ∃ q, v = .tuple #[q, .int .u64 ((val l % m : Nat) : Int)] ∧ NatV H' q (val l / m)) := by
  obtain ⟨A, c, rfl, hc, hr⟩ := hu
  refine fn_intro (args := [_, _]) Tryz.func138 rfl rfl Tryz.ntmps138 rfl rfl fun w0 => ?_
  refine vc_keep [0, 1] rfl ?_
  refine vc_sr ?_
  refine vco_run tbOk 2 rfl ?_
  refine vco_k [0, 1] ?_
  refine vc_sr ?_
  refine vco_run tbOk 2 rfl ?_
  refine vco_make Tryz.underlying32 el117 rfl rfl rfl (by omega) (by omega) (by omega) (by omega) ?_
  intro g hg
  rw [show ((l.length : Int)).toNat = l.length from by omega, made_uent']
  have hrg := fun e => hr.le (Heap.le_ins (g := g) e hg)
  refine vco_run tbOk 1 rfl ?_
  refine vco_k [0, 1, 6] ?_
  refine vc_sr ?_
  refine vco_run tbOk 1 rfl ?_
  refine vco_k [0, 1, 6, 7] ?_
  refine vc_seq ?_
  refine vc_sr ?_
  refine vco_run tbOk 2 rfl ?_
  refine vco_sub rfl rfl ⟨by omega, by omega⟩ ?_
  refine vco_run tbOk 1 rfl ?_
  refine vco_k [0, 1, 6, 7, 8] ?_
  refine vc_block ?_
  refine vc_loop3 (fun (k : Nat) (o : List Nat) (rs : Nat) => k) (fun (k : Nat) (o : List Nat) (rs : Nat) => put (put (put (put (put (emp) 0 (.val (.slice A l.length c))) 1 (.val (.int .u64 (m : Int)))) 6 (.val (.slice (some ⟨g, 0, none⟩) l.length l.length))) 7 (.val (.int .u64 (rs : Int)))) 8 (.val (.int .i64 ((k : Int) - 1)))) (fun (k : Nat) (o : List Nat) (rs : Nat) H' => H' = ins H g (uent o l.length) ∧ k ≤ l.length ∧ o.length = l.length ∧ Lt o ∧ rs < m ∧ val (o.drop k) * m + rs = val (l.drop k)) l.length _ 0 (⟨rfl, by omega, by simp, Lt.replicate _, by omega, by simp [val]⟩) (by repeat (first | exact sub_emp _ | refine sub_put rfl ?_ | refine sub_put (slot_int (by first | omega | (simp; done))) ?_)) ?_
  rintro k o rs H1 ⟨rfl, hk, hol, hlo, hrs, hv⟩
  refine vc_seq ?_
  refine vc_sr ?_
  refine vco_run tbOk 2 rfl ?_
  refine vco_k [0, 1, 6, 7, 8, 16] ?_
  refine vc_cond rfl (fun hb => ?_) (fun hb => ?_)
  ·
    have hb : 1 ≤ k := by simp at hb; omega
    obtain ⟨k, rfl⟩ : ∃ j, k = j + 1 := ⟨k - 1, by omega⟩
    obtain ⟨d, hd⟩ : ∃ d, l[k]? = some d := ⟨_, List.getElem?_eq_getElem (by omega)⟩
    have hdB := hl.get hd
    rw [B_eq] at hdB
    have hj : (((k + 1 : Nat) : Int) - 1).toNat = k := by omega
    have hq0 : ((rs : Int) * 1000000000 + (d : Int)) / (m : Int) < 1000000000 := Int.ediv_lt_of_lt_mul (by omega) (by omega)
    have hq1 : 0 ≤ ((rs : Int) * 1000000000 + (d : Int)) / (m : Int) := Int.ediv_nonneg (by omega) (by omega)
    refine vc_skip ?_
    refine vc_keep [0, 1, 6, 7, 8] rfl ?_
    refine vc_seq ?_
    refine vc_block ?_
    refine vc_sr ?_
    refine vco_run tbOk 1 rfl ?_
    refine vco_mul rfl rfl ⟨by omega, by omega⟩ ?_
    refine vco_run tbOk 2 rfl ?_
    refine vco_at tbOk rfl rfl rfl rfl rfl (hrg _) (by rw [hj]; exact U_get hd) (by omega) (by omega) fun _ => ?_
    refine vco_conv tbOk rfl rfl rfl ⟨by omega, by omega⟩ ?_
    refine vco_add rfl rfl ⟨by omega, by omega⟩ ?_
    refine vco_run tbOk 1 rfl ?_
    refine vco_k [0, 1, 6, 7, 8] ?_
    refine vc_sr ?_
    refine vco_run tbOk 4 rfl ?_
    refine vco_quo rfl rfl (by omega) (by omega) ⟨by omega, by omega⟩ ?_
    refine vco_conv tbOk rfl rfl rfl ⟨by omega, by omega⟩ ?_
    obtain ⟨ti, hti, htz⟩ := sz117; refine vco_set (.inl rfl) tbOk rfl rfl rfl (by omega) (by omega) (ins_same _ _ _) rfl (by rw [uent_len]; omega) hti htz (fun _ => rfl) rfl rfl rfl fun _ => ?_
    refine vco_k [0, 1, 6, 7, 8] ?_
    refine vc_region rfl ?_
    refine vco_run tbOk 2 rfl ?_
    refine vco_rem rfl rfl (by omega) (by omega) ?_
    refine vco_run tbOk 1 rfl ?_
    refine vco_end ?_
    refine vc_keep [0, 1, 6, 7, 8] rfl ?_
    refine vc_region rfl ?_
    refine vco_run tbOk 1 rfl ?_
    refine vco_sub rfl rfl ⟨by omega, by omega⟩ ?_
    refine vco_run tbOk 1 rfl ?_
    refine vco_end ?_
    have hq : (rs * 1000000000 + d) / m < 1000000000 := by rw [Nat.div_lt_iff_lt_mul hm0]; omega
    refine ⟨k, o.set k ((rs * 1000000000 + d) / m), (rs * 1000000000 + d) % m, by omega, (by repeat (first | exact sub_emp _ | refine sub_put rfl ?_ | refine sub_put (slot_int (by first | omega | (simp; done))) ?_)), by rw [set_uent (y := (rs * 1000000000 + d) / m) (by simp)]; rw [hj], by omega, by simp [hol], hlo.set (by rw [B_eq]; omega), Nat.mod_lt _ hm0, ?_⟩
    rw [set_drop (by omega), drop_get hd, val_cons, val_cons, ← hv]
    have := Nat.div_add_mod (rs * 1000000000 + d) m
    simp only [B_eq, Nat.add_mul, Nat.mul_add, Nat.mul_assoc]
    rw [Nat.mul_comm m] at this
    omega
  ·
    have hb : k = 0 := by simp at hb; omega
    subst hb
    simp only [List.drop_zero] at hv
    refine vc_exit ?_
    refine vc_keep [6, 7] rfl ?_
    refine vc_sr ?_
    refine vco_run tbOk 1 rfl ?_
    refine vco_call rfl rfl (cut_ok (lim_uent _ _ o _ _ hol.symm (Nat.le_refl _)) hlo (by omega)) ?_
    intro v1 H4 hp
    refine vco_run tbOk 3 rfl ?_
    refine vco_k [4, 5] ?_
    refine vc_ret ⟨.inr rfl, _, .tmp rfl (.tmp rfl (.nil)), ?_⟩
    refine ⟨(Heap.le_ins _ hg).trans hp.le, v1, ?_, ?_⟩
    · rw [(div_of hv hrs).2]; rfl
    · rw [(div_of hv hrs).1]; exact hp.nat

end Go.Eng
/- Walks over package amortcostref1, part 4: the quotient. -/
namespace Go.Eng
open Go.Proofs Num

/-- The guess of a digit: any number below the base. -/
def RetG (H : Heap) (v : Value) (H' : Heap) : Prop := H' = H ∧ ∃ d : Nat, v = .int .u64 (d : Int) ∧ d ≤ 999999999
theorem RetG.le {H : Heap} {v : Value} {H' : Heap} (h : RetG H v H') : Heap.le H H' := by rw [h.1]; exact .refl _

theorem guess_ok {H : Heap} {u v : Value} {x y : Nat} (hx : NatV H u x) (hy : NatV H v y) (hy2 : 2 ≤ (limbs y).length) (hxy : (limbs x).length ≤ (limbs y).length + 1) (hm : ((limbs y).length : Int) ≤ 8796093022208) :
    Fn Tryz.prog 139 #[u, v] H (RetG H) := by
  obtain ⟨A, c, rfl, hc, hr⟩ := hx
  obtain ⟨A', c', rfl, hc', hr'⟩ := hy
  have hla := (nrm_limbs x).lt
  have hlb := (nrm_limbs y).lt
  obtain ⟨k, hk⟩ : ∃ k, (limbs y).length = k + 2 := ⟨(limbs y).length - 2, by omega⟩
  have hj1 : (((limbs y).length : Int) - 1).toNat = k + 1 := by omega
  have hj2 : (((limbs y).length : Int) - 2).toNat = k := by omega
  obtain ⟨b1, hb1⟩ : ∃ z, (limbs y)[k + 1]? = some z := ⟨_, List.getElem?_eq_getElem (by omega)⟩
  obtain ⟨b0, hb0⟩ : ∃ z, (limbs y)[k]? = some z := ⟨_, List.getElem?_eq_getElem (by omega)⟩
  have hb1B := hlb.get hb1
  have hb0B := hlb.get hb0
  have hb10 : b1 ≠ 0 := (nrm_limbs y).last b1 (by rw [List.getLast?_eq_getElem?, hk]; exact hb1)
  rw [B_eq] at hb1B hb0B
  refine fn_intro (args := [_, _]) Tryz.func139 rfl rfl Tryz.ntmps139 rfl rfl fun w0 => ?_
  refine vc_keep [0, 1] rfl ?_
  refine vc_sr ?_
  refine vco_run tbOk 1 rfl ?_
  refine vco_k [0, 1] ?_
  refine vc_sr ?_
  refine vco_run tbOk 3 rfl ?_
  refine vco_k [0, 1, 5] ?_
  refine vc_seq ?_
  refine vc_sr ?_
  refine vco_run tbOk 4 rfl ?_
  refine vco_k [0, 1, 5, 15] ?_
  refine vc_cond rfl (fun hb => ?_) (fun hb => ?_)
  ·
    skip
    refine vc_sr ?_
    refine vco_run tbOk 1 rfl ?_
    refine vco_k [4] ?_
    refine vc_ret ⟨.inr rfl, _, .tmp rfl (.nil), ?_⟩
    exact ⟨rfl, 0, rfl, by omega⟩
  ·
    have hb : (limbs y).length ≤ (limbs x).length := by simpa using hb
    obtain ⟨r1, hr1⟩ : ∃ z, (limbs x)[k + 1]? = some z := ⟨_, List.getElem?_eq_getElem (by omega)⟩
    obtain ⟨r0, hr0⟩ : ∃ z, (limbs x)[k]? = some z := ⟨_, List.getElem?_eq_getElem (by omega)⟩
    have hr1B := hla.get hr1
    have hr0B := hla.get hr0
    rw [B_eq] at hr1B hr0B
    have hq0 : ((r1 : Int) * 1000000000 + (r0 : Int)) / ((b1 : Int) * 1000000000 + (b0 : Int)) < 1000000000 := Int.ediv_lt_of_lt_mul (by omega) (by omega)
    have hq1 : 0 ≤ ((r1 : Int) * 1000000000 + (r0 : Int)) / ((b1 : Int) * 1000000000 + (b0 : Int)) := Int.ediv_nonneg (by omega) (by omega)
    obtain ⟨q, hq⟩ : ∃ q : Nat, (q : Int) = ((r1 : Int) * 1000000000 + (r0 : Int)) / ((b1 : Int) * 1000000000 + (b0 : Int)) := ⟨_, Int.toNat_of_nonneg hq1⟩
    rw [← hq] at hq0
    refine vc_skip ?_
    refine vc_keep [0, 1, 5] rfl ?_
    refine vc_sd .drawB [0, 1, 2, 3, 4, 5, 6, 7, 8, 9, 10, 11, 12, 13, 14] follows (by kernel_rfl) ?_
    refine vco_run tbOk 2 rfl ?_
    refine vco_sub rfl rfl ⟨by omega, by omega⟩ ?_
    refine vco_at tbOk rfl rfl rfl rfl rfl (hr') (by rw [hj1]; exact U_get hb1) (by omega) (by omega) fun _ => ?_
    refine vco_conv tbOk rfl rfl rfl ⟨by omega, by omega⟩ ?_
    refine vco_mul rfl rfl ⟨by omega, by omega⟩ ?_
    refine vco_run tbOk 2 rfl ?_
    refine vco_sub rfl rfl ⟨by omega, by omega⟩ ?_
    refine vco_at tbOk rfl rfl rfl rfl rfl (hr') (by rw [hj2]; exact U_get hb0) (by omega) (by omega) fun _ => ?_
    refine vco_conv tbOk rfl rfl rfl ⟨by omega, by omega⟩ ?_
    refine vco_add rfl rfl ⟨by omega, by omega⟩ ?_
    refine vco_run tbOk 1 rfl ?_
    refine vco_k [0, 5, 6] ?_
    refine vc_sd .drawB [0, 1, 2, 3, 4, 5, 6, 7, 8, 9, 10, 11, 12, 13, 14] follows (by kernel_rfl) ?_
    refine vco_run tbOk 2 rfl ?_
    refine vco_sub rfl rfl ⟨by omega, by omega⟩ ?_
    refine vco_at tbOk rfl rfl rfl rfl rfl (hr) (by rw [hj1]; exact U_get hr1) (by omega) (by omega) fun _ => ?_
    refine vco_conv tbOk rfl rfl rfl ⟨by omega, by omega⟩ ?_
    refine vco_mul rfl rfl ⟨by omega, by omega⟩ ?_
    refine vco_run tbOk 2 rfl ?_
    refine vco_sub rfl rfl ⟨by omega, by omega⟩ ?_
    refine vco_at tbOk rfl rfl rfl rfl rfl (hr) (by rw [hj2]; exact U_get hr0) (by omega) (by omega) fun _ => ?_
    refine vco_conv tbOk rfl rfl rfl ⟨by omega, by omega⟩ ?_
    refine vco_add rfl rfl ⟨by omega, by omega⟩ ?_
    refine vco_run tbOk 1 rfl ?_
    refine vco_k [0, 5, 6, 7] ?_
    refine vc_seq ?_
    refine vc_sr ?_
    refine vco_run tbOk 4 rfl ?_
    refine vco_k [0, 5, 6, 7, 47] ?_
    refine vc_cond rfl (fun hb => ?_) (fun hb => ?_)
    ·
      skip
      refine vc_sr ?_
      refine vco_run tbOk 2 rfl ?_
      refine vco_quo rfl rfl (by omega) (by omega) ⟨by rw [← hq]; omega, by rw [← hq]; omega⟩ ?_
      rw [← hq]
      refine vco_run tbOk 1 rfl ?_
      refine vco_k [4] ?_
      refine vc_ret ⟨.inr rfl, _, .tmp rfl (.nil), ?_⟩
      exact ⟨rfl, q, rfl, by omega⟩
    ·
      have hb : (limbs x).length = (limbs y).length + 1 := by simp at hb; omega
      obtain ⟨rn, hrn⟩ : ∃ z, (limbs x)[(limbs y).length]? = some z := ⟨_, List.getElem?_eq_getElem (by omega)⟩
      refine vc_skip ?_
      refine vc_keep [0, 5, 6, 7] rfl ?_
      refine vc_sr ?_
      refine vco_run tbOk 2 rfl ?_
      refine vco_at tbOk rfl rfl rfl rfl rfl (hr) (U_get hrn) (by omega) (by omega) fun _ => ?_
      refine vco_tofl Tryz.underlying117 Tryz.underlying162 rfl fun f1 => ?_
      refine vco_flop (.inr (.inl rfl)) rfl rfl fun f2 => ?_
      refine vco_run tbOk 1 rfl ?_
      refine vco_tofl Tryz.underlying116 Tryz.underlying162 rfl fun f3 => ?_
      refine vco_flop (.inl rfl) rfl rfl fun f4 => ?_
      refine vco_run tbOk 1 rfl ?_
      refine vco_k [6, 8] ?_
      refine vc_sr ?_
      refine vco_run tbOk 2 rfl ?_
      refine vco_tofl Tryz.underlying116 Tryz.underlying162 rfl fun f5 => ?_
      refine vco_flop (.inr (.inr rfl)) rfl rfl fun f6 => ?_
      refine vco_flto Tryz.underlying162 Tryz.underlying116 rfl fun f7 hf7 => ?_
      refine vco_run tbOk 1 rfl ?_
      refine vco_k [9] ?_
      refine vc_sr ?_
      refine vco_run tbOk 1 rfl ?_
      refine vco_ariw (v := ((f7 : Int) + 2) % 18446744073709551616) rfl rfl rfl ?_
      refine vco_min rfl rfl ?_
      generalize hmn : (if (999999999 : Int) < ((f7 : Int) + 2) % 18446744073709551616 then (999999999 : Int) else ((f7 : Int) + 2) % 18446744073709551616) = mn
      have hmn2 : 0 ≤ mn ∧ mn ≤ 999999999 := by rw [← hmn]; split <;> omega
      obtain ⟨q2, rfl⟩ : ∃ q2 : Nat, mn = (q2 : Int) := ⟨mn.toNat, by omega⟩
      refine vco_run tbOk 1 rfl ?_
      refine vco_k [4] ?_
      refine vc_ret ⟨.inr rfl, _, .tmp rfl (.nil), ?_⟩
      exact ⟨rfl, q2, rfl, by omega⟩

end Go.Eng
/- Walks over package amortcostref1, part 5: division. -/
namespace Go.Eng
open Go.Proofs Num

theorem cmpN_pos {x y : Nat} : (0 < cmpN x y) ↔ y < x := by
  unfold cmpN; split
  · omega
  · split <;> omega
theorem cmpN_neg {x y : Nat} : (cmpN x y < 0) ↔ x < y := by
  unfold cmpN; split
  · omega
  · split <;> omega
theorem cmpN_ge0 {x y : Nat} : (0 ≤ cmpN x y) ↔ y ≤ x := by
  unfold cmpN; split
  · omega
  · split <;> omega
theorem val_drop_cons {l : List Nat} {k d : Nat} (h : l[k]? = some d) : val (l.drop k) = d + B * val (l.drop (k + 1)) := by
  obtain ⟨hk, e⟩ := List.getElem?_eq_some_iff.1 h
  rw [List.drop_eq_getElem_cons hk, e, val_cons]
theorem lt_cons {a : Nat} {l : List Nat} (ha : a < B) (h : Lt l) : Lt (a :: l) := fun z hz => by
  rcases List.mem_cons.1 hz with rfl | hz
  · exact ha
  · exact h z hz
theorem OwnU.lim' {H : Heap} {v : Value} {l : List Nat} (h : Own H v 117 1 l.length (U l)) : LimV H v l := OwnU.lim h

theorem natDiv_ok {H : Heap} {u v : Value} {x y : Nat} (hx : NatV H u x) (hy : NatV H v y) (hy0 : 0 < y) (hm : ((limbs x).length : Int) < 4398046511104) (hm' : ((limbs y).length : Int) < 4398046511104) :
    Fn Tryz.prog 121 #[u, v] H (RetQR H x y) := by
  have hx0 := hx
  have hy1 := hy
  obtain ⟨A, c, rfl, hc, hr⟩ := hx
  obtain ⟨A', c', rfl, hc', hr'⟩ := hy
  have hla := (nrm_limbs x).lt
  have hlb := (nrm_limbs y).lt
  have hyne : (limbs y).length ≠ 0 := fun e => limbs_ne hy0 (List.eq_nil_of_length_eq_zero e)
  refine fn_intro (args := [_, _]) Tryz.func121 rfl rfl Tryz.ntmps121 rfl rfl fun w0 => ?_
  refine vc_keep [0, 1] rfl ?_
  refine vc_sr ?_
  refine vco_run tbOk 2 rfl ?_
  refine vco_k [0, 1] ?_
  refine vc_seq ?_
  refine vc_sr ?_
  refine vco_run tbOk 2 rfl ?_
  refine vco_call rfl rfl (natCmp_ok hx0 hy1 (by omega)) ?_
  rintro v1 H1 ⟨e1, rfl⟩
  rw [e1]
  refine vco_run tbOk 1 rfl ?_
  refine vco_k [0, 1, 15] ?_
  refine vc_cond rfl (fun hb => ?_) (fun hb => ?_)
  ·
    have hxy : x < y := cmpN_neg.1 (by simpa using hb)
    refine vc_sr ?_
    refine vco_run tbOk 1 rfl ?_
    refine vco_call rfl rfl (cut_ok hx0 hla (by omega)) ?_
    rintro v1 H1 hp
    rw [val_limbs] at hp
    refine vco_run tbOk 2 rfl ?_
    refine vco_k [4, 5] ?_
    refine vc_ret ⟨.inr rfl, _, .tmp rfl (.tmp rfl (.nil)), ?_⟩
    exact ⟨hp.le, _, _, rfl, by rw [Nat.div_eq_of_lt hxy]; exact natV_zero _, by rw [Nat.mod_eq_of_lt hxy]; exact hp.nat⟩
  ·
    have hxy : y ≤ x := cmpN_ge0.1 (by simpa using hb)
    refine vc_skip ?_
    refine vc_keep [0, 1] rfl ?_
    refine vc_seq ?_
    refine vc_sr ?_
    refine vco_run tbOk 3 rfl ?_
    refine vco_k [0, 1, 20] ?_
    refine vc_cond rfl (fun hb => ?_) (fun hb => ?_)
    ·
      have hb : (limbs y).length = 1 := by simp at hb; omega
      have hy2 : (limbs y)[0]? = some y := by
        obtain ⟨z, hz⟩ := List.length_eq_one_iff.1 hb
        have := val_limbs y
        rw [hz] at this ⊢
        simp [val] at this
        simp [this]
      have hyB := hlb.get hy2
      rw [B_eq] at hyB
      refine vc_sr ?_
      refine vco_run tbOk 2 rfl ?_
      refine vco_at tbOk rfl rfl rfl rfl rfl (hr') (U_get hy2) (by omega) (by omega) fun _ => ?_
      refine vco_conv tbOk rfl rfl rfl ⟨by omega, by omega⟩ ?_
      refine vco_call rfl rfl (natSmall_ok hx0 hla hyB hy0 (by omega)) ?_
      rintro v1 H2 ⟨hle, q, rfl, hq⟩
      refine vco_run tbOk 1 rfl ?_
      rw [val_limbs] at hq ⊢
      refine vco_run tbOk 4 rfl ?_
      refine vco_k [6, 7] ?_
      refine vc_sr ?_
      refine vco_run tbOk 2 rfl ?_
      refine vco_call rfl rfl (limbs_ok (x := x % y) (by have := Nat.mod_lt x hy0; omega)) ?_
      intro v1 H3 hp
      refine vco_run tbOk 2 rfl ?_
      refine vco_k [4, 5] ?_
      refine vc_ret ⟨.inr rfl, _, .tmp rfl (.tmp rfl (.nil)), ?_⟩
      exact ⟨hle.trans hp.le, _, _, rfl, hq.le hp.le, hp.nat⟩
    ·
      have hb : (limbs y).length ≠ 1 := by simp at hb; omega
      have hn2 : 2 ≤ (limbs y).length := by omega
      refine vc_skip ?_
      refine vc_keep [0, 1] rfl ?_
      refine vc_sr ?_
      refine vco_run tbOk 2 rfl ?_
      refine vco_make Tryz.underlying32 el117 rfl rfl rfl (by omega) (by omega) (by omega) (by omega) ?_
      intro g hg
      rw [show (((limbs x).length : Int)).toNat = (limbs x).length from by omega, made_uent']
      refine vco_run tbOk 1 rfl ?_
      refine vco_k [0, 1, 8] ?_
      refine vc_sr ?_
      refine vco_run tbOk 1 rfl ?_
      refine vco_k [0, 1, 8, 9] ?_
      refine vc_seq ?_
      refine vc_sr ?_
      refine vco_run tbOk 2 rfl ?_
      refine vco_sub rfl rfl ⟨by omega, by omega⟩ ?_
      refine vco_run tbOk 1 rfl ?_
      refine vco_k [0, 1, 8, 9, 10] ?_
      refine vc_block ?_
      refine vc_loop4 (fun (k : Nat) (rv : Value) (r : Nat) (l : List Nat) => k) (fun (k : Nat) (rv : Value) (r : Nat) (l : List Nat) => put (put (put (put (put (emp) 0 (.val (.slice A (limbs x).length c))) 1 (.val (.slice A' (limbs y).length c'))) 8 (.val (.slice (some ⟨g, 0, none⟩) (limbs x).length (limbs x).length))) 9 (.val (rv))) 10 (.val (.int .i64 ((k : Int) - 1)))) (fun (k : Nat) (rv : Value) (r : Nat) (l : List Nat) H' => Heap.le H (rem H' [g]) ∧ H' g = some (uent l (limbs x).length) ∧ l.length = (limbs x).length ∧ Lt l ∧ k ≤ (limbs x).length ∧ r < y ∧ NatV (rem H' [g]) rv r ∧ val ((limbs x).drop k) = val (l.drop k) * y + r) (limbs x).length (.slice none 0 0) 0 _ (⟨by rw [rem_ins_new _ hg, rem_nil]; exact .refl _, ins_same _ _ _, by simp, Lt.replicate _, Nat.le_refl _, hy0, natV_zero _, by simp [val]⟩) (by repeat (first | exact sub_emp _ | refine sub_put rfl ?_ | refine sub_put (slot_int (by first | omega | (simp; done))) ?_)) ?_
      rintro k rv r l H1 ⟨hle, hgq, hll, hlt, hk, hry, hrv, hv⟩
      obtain ⟨Ar, cr, rfl, hcr, hrr⟩ := id hrv
      have hrlen := limbs_len_mono (Nat.le_of_lt hry)
      have hleH := hle.trans (rem_le H1 [g])
      refine vc_seq ?_
      refine vc_sr ?_
      refine vco_run tbOk 2 rfl ?_
      refine vco_k [0, 1, 8, 9, 10, 40] ?_
      refine vc_cond rfl (fun hb => ?_) (fun hb => ?_)
      ·
        have hb : 0 < k := by simp at hb; omega
        obtain ⟨ai, hai⟩ : ∃ d, (limbs x)[k - 1]? = some d := ⟨_, List.getElem?_eq_getElem (by omega)⟩
        have haiB := hla.get hai
        rw [B_eq] at haiB
        have hki : (((k : Int) - 1)).toNat = k - 1 := by omega
        refine vc_skip ?_
        refine vc_keep [0, 1, 8, 9, 10] rfl ?_
        refine vc_seq ?_
        refine vc_block ?_
        refine vc_sr ?_
        refine vco_run tbOk 2 rfl ?_
        refine vco_at tbOk rfl rfl rfl rfl rfl (hr.le hleH) (by rw [hki]; exact U_get hai) (by omega) (by omega) fun _ => ?_
        refine vco_build Tryz.underlying32 el117 rfl rfl rfl rfl rfl rfl rfl ?_
        intro gb hgb
        have hgbg : gb ≠ g := fun e => by subst e; rw [hgq] at hgb; cases hgb
        refine vco_run tbOk 1 rfl ?_
        refine vco_append Tryz.underlying32 el117 rfl rfl ((⟨rfl, .inr ⟨gb, 1, rfl, ins_same _ _ _, Nat.le_refl _, by decide⟩⟩ : Own _ _ 117 1 1 (U [ai]))) ((hrr.le (rem_le _ _)).le (Heap.le_ins _ hgb)) (by rw [U_length, Nat.mul_one]) (U_one _) (by omega) (by omega) ?_
        intro v1 H2 ha
        have hr1 := ha.rem (gs := [g]) (fun q hq => by simp only [List.mem_singleton] at hq; subst hq; rw [ins_other _ _ (Ne.symm hgbg), hgq]; simp) (fun q hq => by simp only [List.mem_singleton] at hq; subst hq; intro e; cases e; exact hgbg rfl)
        have hg2 : H2 g = some (uent l (limbs x).length) := by rw [hr1.2 g (List.mem_singleton.2 rfl), ins_other _ _ (Ne.symm hgbg), hgq]
        have hle2 : Heap.le (rem H1 [g]) (rem H2 [g]) := (rem_mono [g] (Heap.le_ins _ hgb)).trans hr1.1.le
        have hlim : LimV (rem H2 [g]) v1 (ai :: limbs r) := OwnU.lim' (by have h0 := hr1.1.own; rw [← U_append, Nat.add_comm] at h0; exact h0)
        refine vco_call rfl rfl (Fn.frame (gs := [g]) (fun q hq => by simp only [List.mem_singleton] at hq; subst hq; rw [hg2]; simp) (cut_ok hlim (lt_cons (by rw [B_eq]; exact haiB) (nrm_limbs r).lt) (by rw [List.length_cons]; omega))) ?_
        rintro v2 H3 ⟨hp3, hs3⟩
        rw [val_cons, val_limbs] at hp3
        obtain ⟨r1, hr1d⟩ : ∃ r1, r1 = ai + B * r := ⟨_, rfl⟩
        rw [← hr1d] at hp3
        have hg3 := (hs3 g (List.mem_singleton.2 rfl)).trans hg2
        have hle3 := hle2.trans hp3.le
        have hr1B : r1 < B * y := by rw [hr1d, B_eq]; omega
        have hr1l : (limbs r1).length ≤ (limbs y).length + 1 := limbs_len_le.2 (by rw [Nat.pow_succ, Nat.mul_comm _ B]; exact Nat.lt_trans hr1B (Nat.mul_lt_mul_of_pos_left (limbs_lt y) B_pos))
        have hy3 := (hy1.le hle).le hle3
        have hn3 := hp3.nat
        obtain ⟨A3, c3, rfl, hc3, hr3⟩ := id hn3
        refine vco_run tbOk 1 rfl ?_
        refine vco_k [0, 1, 8, 9, 10] ?_
        refine vc_sr ?_
        refine vco_run tbOk 2 rfl ?_
        refine vco_call rfl rfl (Fn.frame (gs := [g]) (fun q hq => by simp only [List.mem_singleton] at hq; subst hq; rw [hg3]; simp) (guess_ok hn3 hy3 hn2 hr1l (by omega))) ?_
        rintro v3 H4 ⟨⟨hp4, d0, rfl, hd0⟩, hs4⟩
        have hg4 := (hs4 g (List.mem_singleton.2 rfl)).trans hg3
        have hle4 : Heap.le (rem H1 [g]) (rem H4 [g]) := by rw [hp4]; exact hle3
        refine vco_run tbOk 1 rfl ?_
        refine vco_k [0, 1, 8, 9, 10, 11] ?_
        refine vc_cut1 (fun (d : Nat) => put (put (put (put (put (put (emp) 0 (.val (.slice A (limbs x).length c))) 1 (.val (.slice A' (limbs y).length c'))) 8 (.val (.slice (some ⟨g, 0, none⟩) (limbs x).length (limbs x).length))) 9 (.val (.slice A3 (limbs r1).length c3))) 10 (.val (.int .i64 ((k : Int) - 1)))) 11 (.val (.int .u64 (d : Int)))) (fun (d : Nat) H' => Heap.le (rem H3 [g]) (rem H' [g]) ∧ H' g = some (uent l (limbs x).length) ∧ d ≤ 999999999 ∧ y * d ≤ r1) ?_ ?_
        ·
          refine vc_block ?_
          refine vc_loop1 (fun (d : Nat) => d) (fun (d : Nat) => put (put (put (put (put (put (emp) 0 (.val (.slice A (limbs x).length c))) 1 (.val (.slice A' (limbs y).length c'))) 8 (.val (.slice (some ⟨g, 0, none⟩) (limbs x).length (limbs x).length))) 9 (.val (.slice A3 (limbs r1).length c3))) 10 (.val (.int .i64 ((k : Int) - 1)))) 11 (.val (.int .u64 (d : Int)))) (fun (d : Nat) H' => Heap.le (rem H3 [g]) (rem H' [g]) ∧ H' g = some (uent l (limbs x).length) ∧ d ≤ 999999999) d0 (⟨by rw [hp4]; exact .refl _, hg4, hd0⟩) (by repeat (first | exact sub_emp _ | refine sub_put rfl ?_ | refine sub_put (slot_int (by first | omega | (simp; done))) ?_)) ?_
          rintro d H5 ⟨hle5, hg5, hd5⟩
          have hy5 := hy3.le hle5
          have hn5 := hn3.le hle5
          refine vc_seq ?_
          rcases Nat.eq_zero_or_pos d with hd0 | hd0
          ·
            subst hd0
            refine vc_sr ?_
            refine vco_run tbOk 1 rfl ?_
            refine vco_cmp false rfl rfl (cgt_f (by omega)) ?_
            refine vco_run tbOk 9 rfl ?_
            refine vco_k [0, 1, 8, 9, 10, 11, 64] ?_
            refine vc_cond_f rfl ?_
            refine vc_exit ?_
            exact ⟨0, (by repeat (first | exact sub_emp _ | refine sub_put rfl ?_ | refine sub_put (slot_int (by first | omega | (simp; done))) ?_)), hle5, hg5, by omega, by omega⟩
          ·
            have hld : (limbs d).length ≤ 3 := limbs_len_le.2 (by rw [B_eq]; omega)
            refine vc_sr ?_
            refine vco_run tbOk 1 rfl ?_
            refine vco_cmp true rfl rfl (cgt_t (by omega)) ?_
            refine vco_run tbOk 3 rfl ?_
            refine vco_call rfl rfl (Fn.frame (gs := [g]) (fun q hq => by simp only [List.mem_singleton] at hq; subst hq; rw [hg5]; simp) (limbs_ok (x := d) (by omega))) ?_
            rintro v4 Ha ⟨hpa, hsa⟩
            have hga := (hsa g (List.mem_singleton.2 rfl)).trans hg5
            refine vco_call rfl rfl (Fn.frame (gs := [g]) (fun q hq => by simp only [List.mem_singleton] at hq; subst hq; rw [hga]; simp) (natMul_ok (hy5.le hpa.le) hpa.nat (by omega) (by omega))) ?_
            rintro v5 Hb ⟨hpb, hsb⟩
            have hgb2 := (hsb g (List.mem_singleton.2 rfl)).trans hga
            have hml := len_mul y d
            refine vco_run tbOk 1 rfl ?_
            refine vco_call rfl rfl (Fn.frame (gs := [g]) (fun q hq => by simp only [List.mem_singleton] at hq; subst hq; rw [hgb2]; simp) (natCmp_ok hpb.nat ((hn5.le hpa.le).le hpb.le) (by omega))) ?_
            rintro v6 Hc ⟨⟨hec, rfl⟩, hsc⟩
            have hgm := (hsc g (List.mem_singleton.2 rfl)).trans hgb2
            have hlem : Heap.le (rem H3 [g]) (rem Hc [g]) := by rw [hec]; exact (hle5.trans hpa.le).trans hpb.le
            refine vco_run tbOk 2 rfl ?_
            refine vco_k [0, 1, 8, 9, 10, 11, 64] ?_
            refine vc_cond rfl (fun hb => ?_) (fun hb => ?_)
            ·
              have hb : r1 < y * d := cmpN_pos.1 (by simpa using hb)
              refine vc_skip ?_
              refine vc_keep [0, 1, 8, 9, 10, 11] rfl ?_
              refine vc_block ?_
              refine vc_region rfl ?_
              refine vco_run tbOk 1 rfl ?_
              refine vco_sub rfl rfl ⟨by omega, by omega⟩ ?_
              refine vco_run tbOk 1 rfl ?_
              refine vco_end ?_
              exact ⟨d - 1, by omega, (by repeat (first | exact sub_emp _ | refine sub_put rfl ?_ | refine sub_put (slot_int (by first | omega | (simp; done))) ?_)), hlem, hgm, by omega⟩
            ·
              have hb : y * d ≤ r1 := by
                have : ¬ 0 < cmpN (y * d) r1 := by simpa using hb
                rw [cmpN_pos] at this; omega
              refine vc_exit ?_
              exact ⟨d, (by repeat (first | exact sub_emp _ | refine sub_put rfl ?_ | refine sub_put (slot_int (by first | omega | (simp; done))) ?_)), hlem, hgm, hd5, hb⟩
        ·
          rintro d H6 ⟨hle6, hg6, hd6, hyd⟩
          have hy6 := hy3.le hle6
          have hn6 := hn3.le hle6
          have hld : (limbs d).length ≤ 3 := limbs_len_le.2 (by rw [B_eq]; omega)
          refine vc_sr ?_
          refine vco_run tbOk 3 rfl ?_
          refine vco_call rfl rfl (Fn.frame (gs := [g]) (fun q hq => by simp only [List.mem_singleton] at hq; subst hq; rw [hg6]; simp) (limbs_ok (x := d) (by omega))) ?_
          rintro v4 Ha ⟨hpa, hsa⟩
          have hga := (hsa g (List.mem_singleton.2 rfl)).trans hg6
          refine vco_call rfl rfl (Fn.frame (gs := [g]) (fun q hq => by simp only [List.mem_singleton] at hq; subst hq; rw [hga]; simp) (natMul_ok (hy6.le hpa.le) hpa.nat (by omega) (by omega))) ?_
          rintro v5 Hb ⟨hpb, hsb⟩
          have hgb2 := (hsb g (List.mem_singleton.2 rfl)).trans hga
          refine vco_call rfl rfl (Fn.frame (gs := [g]) (fun q hq => by simp only [List.mem_singleton] at hq; subst hq; rw [hgb2]; simp) (natSub_ok ((hn6.le hpa.le).le hpb.le) hpb.nat hyd (by omega))) ?_
          rintro v6 Hc ⟨hpc, hsc⟩
          have hgc := (hsc g (List.mem_singleton.2 rfl)).trans hgb2
          have hlec := ((hle6.trans hpa.le).trans hpb.le).trans hpc.le
          refine vco_run tbOk 1 rfl ?_
          refine vco_k [0, 1, 8, 9, 10, 11] ?_
          refine vc_seq ?_
          refine vc_block ?_
          refine vc_loop3 (fun (d2 : Nat) (rv2 : Value) (r2 : Nat) => r2) (fun (d2 : Nat) (rv2 : Value) (r2 : Nat) => put (put (put (put (put (put (emp) 0 (.val (.slice A (limbs x).length c))) 1 (.val (.slice A' (limbs y).length c'))) 8 (.val (.slice (some ⟨g, 0, none⟩) (limbs x).length (limbs x).length))) 9 (.val (rv2))) 10 (.val (.int .i64 ((k : Int) - 1)))) 11 (.val (.int .u64 (d2 : Int)))) (fun (d2 : Nat) (rv2 : Value) (r2 : Nat) H' => Heap.le (rem H3 [g]) (rem H' [g]) ∧ H' g = some (uent l (limbs x).length) ∧ NatV (rem H' [g]) rv2 r2 ∧ r1 = y * d2 + r2) d _ (r1 - y * d) (⟨hlec, hgc, hpc.nat, by omega⟩) (by repeat (first | exact sub_emp _ | refine sub_put rfl ?_ | refine sub_put (slot_int (by first | omega | (simp; done))) ?_)) ?_
          rintro d2 rv2 r2 H6b ⟨hle8, hg8, hn8, he8⟩
          obtain ⟨A8, c8, rfl, hc8, hr8⟩ := id hn8
          have hy8 := hy3.le hle8
          have hl8 := limbs_len_mono (show r2 ≤ r1 by omega)
          have hd2B : d2 < 1000000000 := by
            false_or_by_contra
            have : y * 1000000000 ≤ y * d2 := Nat.mul_le_mul_left _ (by omega)
            rw [B_eq, Nat.mul_comm] at hr1B; omega
          refine vc_seq ?_
          refine vc_sr ?_
          refine vco_run tbOk 2 rfl ?_
          refine vco_call rfl rfl (Fn.frame (gs := [g]) (fun q hq => by simp only [List.mem_singleton] at hq; subst hq; rw [hg8]; simp) (natCmp_ok hn8 hy8 (by omega))) ?_
          rintro v7 H9 ⟨⟨he9, rfl⟩, hs9⟩
          have hg9 := (hs9 g (List.mem_singleton.2 rfl)).trans hg8
          have hle9 : Heap.le (rem H3 [g]) (rem H9 [g]) := by rw [he9]; exact hle8
          have hn9 : NatV (rem H9 [g]) (.slice A8 (limbs r2).length c8) r2 := by rw [he9]; exact hn8
          refine vco_run tbOk 1 rfl ?_
          refine vco_k [0, 1, 8, 9, 10, 11, 76] ?_
          refine vc_cond rfl (fun hb => ?_) (fun hb => ?_)
          ·
            have hb : y ≤ r2 := cmpN_ge0.1 (by simpa using hb)
            refine vc_skip ?_
            refine vc_keep [0, 1, 8, 9, 10, 11] rfl ?_
            refine vc_block ?_
            refine vc_sr ?_
            refine vco_run tbOk 2 rfl ?_
            refine vco_call rfl rfl (Fn.frame (gs := [g]) (fun q hq => by simp only [List.mem_singleton] at hq; subst hq; rw [hg9]; simp) (natSub_ok hn9 (hy3.le hle9) hb (by omega))) ?_
            rintro v8 H10 ⟨hp10, hs10⟩
            have hg10 := (hs10 g (List.mem_singleton.2 rfl)).trans hg9
            refine vco_run tbOk 1 rfl ?_
            refine vco_k [0, 1, 8, 9, 10, 11] ?_
            refine vc_region rfl ?_
            refine vco_run tbOk 1 rfl ?_
            refine vco_add rfl rfl ⟨by omega, by omega⟩ ?_
            refine vco_run tbOk 1 rfl ?_
            refine vco_end ?_
            exact ⟨d2 + 1, _, r2 - y, by omega, (by repeat (first | exact sub_emp _ | refine sub_put rfl ?_ | refine sub_put (slot_int (by first | omega | (simp; done))) ?_)), hle9.trans hp10.le, hg10, hp10.nat, by rw [Nat.mul_add, Nat.mul_one]; omega⟩
          ·
            have hr3y : r2 < y := by
              have : ¬ 0 ≤ cmpN r2 y := by simp at hb; omega
              rw [cmpN_ge0] at this; omega
            obtain ⟨r3, rfl⟩ : ∃ r3, r3 = r2 := ⟨_, rfl⟩
            obtain ⟨d3, rfl⟩ : ∃ d3, d3 = d2 := ⟨_, rfl⟩
            refine vc_exit ?_
            refine vc_keep [0, 1, 8, 9, 10, 11] rfl ?_
            refine vc_region rfl ?_
            refine vco_run tbOk 3 rfl ?_
            refine vco_conv tbOk rfl rfl rfl ⟨by omega, by omega⟩ ?_
            obtain ⟨ti, hti, htz⟩ := sz117; refine vco_set (.inl rfl) tbOk rfl rfl rfl (by omega) (by omega) (hg9) rfl (by rw [uent_len]; omega) hti htz (fun _ => rfl) rfl rfl rfl fun _ => ?_
            refine vco_end ?_
            have hset : ins H9 g { uent l (limbs x).length with xs := splice (uent l (limbs x).length).xs (0 + ((k : Int) - 1).toNat * 1) [.int .u32 (d3 : Int)] } = ins H9 g (uent (l.set (k - 1) d3) (limbs x).length) := by
              rw [hki]; simp only [uent, splice, Nat.zero_add, Nat.mul_one, U_set]
            have hle7 : Heap.le H (rem (ins H9 g { uent l (limbs x).length with xs := splice (uent l (limbs x).length).xs (0 + ((k : Int) - 1).toNat * 1) [.int .u32 (d3 : Int)] }) [g]) := by
              rw [rem_ins_in _ (List.mem_singleton.2 rfl)]; exact (hle.trans hle3).trans hle9
            have hr7 := hn9
            refine vc_keep [0, 1, 8, 9, 10] rfl ?_
            refine vc_region rfl ?_
            refine vco_run tbOk 1 rfl ?_
            refine vco_sub rfl rfl ⟨by omega, by omega⟩ ?_
            refine vco_run tbOk 1 rfl ?_
            refine vco_end ?_
            refine ⟨k - 1, _, r3, l.set (k - 1) d3, by omega, (by repeat (first | exact sub_emp _ | refine sub_put rfl ?_ | refine sub_put (slot_int (by first | omega | (simp; done))) ?_)), hle7, by rw [hset, ins_same], by simp [hll], hlt.set (by rw [B_eq]; omega), by omega, hr3y, by rw [hset, rem_ins_in _ (List.mem_singleton.2 rfl)]; exact hr7, ?_⟩
            rw [val_drop_cons hai, show k - 1 + 1 = k by omega, val_drop_cons (l := l.set (k - 1) d3) (List.getElem?_set_self (by omega)), show k - 1 + 1 = k by omega, List.drop_set_of_lt (by omega), hv]
            have h1 : B * (val (List.drop k l) * y + r) = B * val (List.drop k l) * y + B * r := by rw [Nat.mul_add, Nat.mul_assoc]
            have h2 : (d3 + B * val (List.drop k l)) * y = y * d3 + B * val (List.drop k l) * y := by rw [Nat.add_mul, Nat.mul_comm d3]
            rw [h1, h2]; omega
      ·
        have hb : k = 0 := by simp at hb; omega
        subst hb
        rw [List.drop_zero, List.drop_zero, val_limbs] at hv
        have hqv : val l = x / y := by rw [hv, Nat.add_comm, Nat.add_mul_div_right _ _ hy0, Nat.div_eq_of_lt hry, Nat.zero_add]
        have hrm : r = x % y := by rw [hv, Nat.add_comm, Nat.add_mul_mod_self_right, Nat.mod_eq_of_lt hry]
        refine vc_exit ?_
        refine vc_keep [8, 9] rfl ?_
        refine vc_sr ?_
        refine vco_run tbOk 1 rfl ?_
        refine vco_call rfl rfl (cut_ok (l := l) ⟨some ⟨g, 0, none⟩, _, by rw [hll], by omega, fun i v hv => ⟨_, rfl, by simp [cell, addr0, hgq, uent, hv]⟩⟩ hlt (by omega)) ?_
        rintro v9 H11 hp11
        refine vco_run tbOk 3 rfl ?_
        refine vco_k [4, 5] ?_
        refine vc_ret ⟨.inr rfl, _, .tmp rfl (.tmp rfl (.nil)), ?_⟩
        exact ⟨(hle.trans (rem_le _ _)).trans hp11.le, _, _, rfl, by rw [← hqv]; exact hp11.nat, by rw [← hrm]; exact (hrv.le (rem_le _ _)).le hp11.le⟩

end Go.Eng
