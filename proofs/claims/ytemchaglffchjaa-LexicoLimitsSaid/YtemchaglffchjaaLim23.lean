/- LexicoLimits: how many objectives there may be. -/
import Derived.Test.YtemchaglffchjaaA10
import Derived.Test.YtemchaglffchjaaLw7
import Derived.Test.YtemchaglffchjaaLw2
set_option linter.unusedVariables false
namespace Go.Eng
open Go.Proofs Num Lp
def noObj (k : Nat) : List (List Rat) := List.replicate k []
theorem noObj_len (k : Nat) : (noObj k).length = k := List.length_replicate
theorem slc_two {rel : Nat → Int} {c : Nat} : ∀ {k : Nat}, (∀ i, i < k → rel i = 2) → slc rel c k = c
  | 0, _ => rfl
  | k + 1, h => by
    show slc rel c k + _ = c
    rw [slc_two fun i hi => h i (by omega), h k (by omega)]; rfl
theorem lim_cin {k : Nat} {vs : List Rat} (h : vs.length ≤ k) : Cin (extP ⟨[], []⟩ (noObj k) vs) 0 := by
  refine .inr ?_
  have h1 := unc_le (extP ⟨[], []⟩ (noObj k) vs).lp.rel (extP ⟨[], []⟩ (noObj k) vs).sgN (extP ⟨[], []⟩ (noObj k) vs).u (extP ⟨[], []⟩ (noObj k) vs).lp.m
  have h2 : (extP ⟨[], []⟩ (noObj k) vs).u = 0 := by
    show slc (extP ⟨[], []⟩ (noObj k) vs).lp.rel _ _ = 0
    refine (slc_two fun i hi => ?_).trans rfl
    have hi' : i < vs.length := by
      have h3 : (extP ⟨[], []⟩ (noObj k) vs).rows.length = _ := ext_len (by rw [noObj_len]; exact h)
      have h4 : i < (extP ⟨[], []⟩ (noObj k) vs).rows.length := hi
      rw [h3] at h4
      simpa using h4
    have g1 : (noObj k)[i]? = some [] := by
      unfold noObj
      rw [List.getElem?_replicate, if_pos (by omega)]
    have g2 : vs[i]? = some vs[i] := List.getElem?_eq_getElem hi'
    have g3 := ext_get_ge (p := ⟨[], []⟩) g1 g2
    rw [show (⟨[], []⟩ : Prg).rows.length + i = i from Nat.zero_add i] at g3
    show ((extP ⟨[], []⟩ (noObj k) vs).row i).2.1 = 2
    rw [Prg.row_get g3]
  show unc (extP ⟨[], []⟩ (noObj k) vs).lp.rel (extP ⟨[], []⟩ (noObj k) vs).sgN (extP ⟨[], []⟩ (noObj k) vs).u (extP ⟨[], []⟩ (noObj k) vs).lp.m ≤ _
  omega
theorem lim_sz {k : Nat} (hk : k ≤ 40) : LexSz ⟨[], []⟩ (noObj k) 1000 0 := by
  refine ⟨⟨_, bin_of ⟨[], []⟩⟩, fun vs hv => ?_, by rw [noObj_len]; omega⟩
  rw [noObj_len] at hv
  refine ⟨0, lim_cin hv, ?_⟩
  have h1 : (extP ⟨[], []⟩ (noObj k) vs).lp.m = vs.length := by
    show (extP ⟨[], []⟩ (noObj k) vs).rows.length = _
    rw [ext_len (by rw [noObj_len]; exact hv)]; simp
  have h2 : coefs ⟨[], []⟩ (noObj k) = [0] := by
    unfold coefs noObj
    simp
  have h3 : Tab.wts [0] ≤ 20 := by decide
  unfold bitE
  rw [h1, h2]
  omega
theorem lim_chk {k : Nat} {S : LexS} (h : ChkLex ⟨[], []⟩ (noObj k) S) : S.status = 1 ∧ S.values.length = k ∧ S.duals.length = k := by
  rcases h with ⟨h1, h2, h3, h4, h5⟩ | ⟨h1, h2, h3, h4, d, h5, h6⟩ | ⟨h1, h2, h3, o, h4, h5⟩
  · rw [noObj_len] at h2
    exact ⟨h1, h2, h5.1.trans h2⟩
  · have h7 := h6.cert.pos
    have h8 : (Prg.lp ⟨[], []⟩).bndsum (fn d) = 0 := rfl
    rw [h8] at h7
    exact absurd h7 (by decide)
  · have h7 := h5.cert.neg
    have h8 : dotN (Prg.lp (extP ⟨[], []⟩ (noObj k) S.values)).n (fn o) (fn S.ray) = 0 := rfl
    rw [h8] at h7
    exact absurd h7 (by decide)
theorem lim_e {k : Nat} {e : Int} (h : LexE ⟨[], []⟩ (noObj k) e) : (40 < k → e = 9) ∧ (k ≤ 40 → e = 0) := by
  have hok : Prg.Ok ⟨[], []⟩ := ⟨by decide, by decide, fun i r hr => by simp at hr⟩
  have hv : ∀ o, o ∈ noObj k → o.length = (⟨[], []⟩ : Prg).free.length := fun o ho => by rw [List.eq_of_mem_replicate ho]; rfl
  have hr : (⟨[], []⟩ : Prg).rows.length = 0 := rfl
  unfold LexE at h
  rw [noObj_len, hr] at h
  rcases h with ⟨h1, _⟩ | ⟨_, h1, _⟩ | ⟨_, _, h1, h2⟩ | ⟨h1, h2⟩
  · exact absurd hok h1
  · exact absurd hv h1
  · exact ⟨fun _ => h2, fun _ => by omega⟩
  · have h3 := h1.lev
    rw [noObj_len] at h3
    exact ⟨fun _ => by omega, fun _ => h2⟩
theorem llimits_ok {H : Heap} {z : Int} (hz0 : 0 ≤ z) (hz1 : z ≤ 255) :
  Fn Try.prog 4 #[.int .u8 z] H (fun v H' => Heap.le H H' ∧ v = .bool true) := by
 have hz2 : 0 ≤ z % 5 ∧ z % 5 < 5 := ⟨Int.emod_nonneg _ (by decide), Int.emod_lt_of_pos _ (by decide)⟩
 obtain ⟨k, hk⟩ : ∃ k : Nat, (38 + z % 5 : Int) = k := ⟨(38 + z % 5).toNat, by omega⟩; refine fn_intro (args := [_]) Try.func4 rfl rfl Try.ntmps4 rfl rfl fun w0 => ?_; refine vc_keep [0] rfl ?_; refine vc_sr ?_; refine vr 1 ?_; refine vco_k [0] ?_; refine vc_seq ?_; refine vc_sr ?_; refine vco_call rfl rfl (sane3_ok) ?_; rintro _ H1 ⟨hl1, rfl⟩; refine vr 1 ?_; refine vco_k [0, 7] ?_; refine vc_cond_f rfl ?_; refine vc_skip ?_; refine vc_keep [0] rfl ?_; refine vc_sr ?_; refine vr 1 ?_; refine vco_rem rfl rfl (by omega) (by omega) ?_; refine vco_conv tbOk rfl rfl rfl ⟨by omega, by omega⟩ ?_; refine vco_add rfl rfl ⟨by omega, by omega⟩ ?_; rw [hk]; refine vr 1 ?_; refine vco_k [3] ?_; refine vc_sr ?_; refine vco_st tbOk rfl el27 rfl rfl ?_; refine vr 1 ?_; refine vco_make Try.underlying36 el28 rfl rfl rfl (by omega) (by omega) (by omega) (by omega) ?_; intro g hg; rw [show ((k : Nat) : Int).toNat = k from Int.toNat_natCast _]
 have hls : LsV 2 (ins H1 g ⟨madeL [.slice none 0 0] (k * 1), k * 1, 28, true⟩) (.slice (some ⟨g, 0, none⟩) k k) (noObj k) :=
  ⟨_, k, madeL [.slice none 0 0] (k * 1), by rw [noObj_len], by rw [noObj_len]; exact Nat.le_refl _, fun i v hv => ⟨_, rfl, by rw [addr0]; simpa [cell, ins_same] using hv⟩, els_made (P := VecP 2 _) (sz := 1) (zs := [.slice none 0 0]) (a := ([] : List Rat)) rfl ⟨none, 0, rfl, slV_nil⟩ k⟩
 have hl2 : Heap.le H (ins H1 g ⟨madeL [.slice none 0 0] (k * 1), k * 1, 28, true⟩) := hl1.trans (Heap.le_ins _ hg)
 generalize ins H1 g ⟨madeL [.slice none 0 0] (k * 1), k * 1, 28, true⟩ = H2 at hls hl2 ⊢
 refine vco_call rfl rfl (lexMin_ok (N := 2) (E := 1000) (f0 := 0) (progV_zero 2 H2) hls (by decide) (by rw [noObj_len]; omega) (fun hf => lim_sz (by have := hf.lev; rwa [noObj_len] at this))) ?_; rintro _ H4 ⟨hl4, s, e, rfl, hE, hcs⟩
 obtain ⟨S, ⟨A1, c1, A2, c2, A3, c3, A4, c4, rfl, hs1, hs2, hs3, hs4⟩, hS⟩ : ∃ S, LexV H4 s S ∧ ((e ≠ 0 ∧ S = ⟨0, [], [], [], []⟩) ∨ (e = 0 ∧ ChkLex ⟨[], []⟩ (noObj k) S)) := by
  rcases hcs with ⟨h9, h8⟩ | ⟨h9, S, h8, h7⟩
  · exact ⟨⟨0, [], [], [], []⟩, ⟨_, _, _, _, _, _, _, _, h8, slV_nil, slV_nil, slV_nil, slV_nil⟩, .inl ⟨h9, rfl⟩⟩
  · exact ⟨S, h8, .inr ⟨h9, h7⟩⟩
 obtain ⟨hE1, hE2⟩ := lim_e hE; have h04 := hl2.trans hl4; refine vr 3 ?_; refine vco_alloc el38 rfl ?_; obtain ⟨ti, hti, htz⟩ := sz38; refine vco_bstore (.inl ⟨rfl, rfl⟩) rfl rfl rfl hti htz rfl rfl rfl ?_; refine vr 1 ?_; refine vco_k [3, 4, 5] ?_; refine vc_seq ?_; refine vc_sr ?_; refine vr 2 ?_; refine vco_k [3, 4, 5, 20] ?_; refine vc_cond rfl (fun hb => ?_) (fun hb => ?_)
 ·
  have hb : 40 < (k : Int) := by simpa using hb
  obtain rfl := hE1 (by omega); refine vc_sr ?_; refine vr 1 ?_; refine vco_cmp true rfl rfl (ceq_t rfl) ?_; refine vr 1 ?_; refine vco_k [2] ?_; refine vc_ret ⟨.inr rfl, _, .tmp rfl (.nil), ?_⟩; exact ⟨h04, rfl⟩
 ·
  have hb : (k : Int) ≤ 40 := by simpa using hb
  obtain rfl := hE2 (by omega); obtain ⟨t1, t2, t3⟩ := lim_chk (k := k) (S := S) (by rcases hS with ⟨h9, _⟩ | ⟨_, h9⟩; exact absurd rfl h9; exact h9); refine vc_skip ?_; refine vc_keep [3, 4, 5] rfl ?_; refine vc_sr ?_; refine vr 1 ?_; refine vco_cmp true rfl rfl (ceq_t rfl) ?_; refine vr 3 ?_; refine vco_cmp true rfl rfl (ceq_t (by omega)) ?_; refine vr 6 ?_; refine vco_cmp true rfl rfl (ceq_t (by omega)) ?_; refine vr 6 ?_; refine vco_cmp true rfl rfl (ceq_t (by omega)) ?_; refine vr 2 ?_; refine vco_k [2] ?_; refine vc_ret ⟨.inr rfl, _, .tmp rfl (.nil), ?_⟩; exact ⟨h04, rfl⟩
end Go.Eng
