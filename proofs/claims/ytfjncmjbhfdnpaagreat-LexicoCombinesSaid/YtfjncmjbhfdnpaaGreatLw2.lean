/- law23's sane. -/
import Derived.Test.YtfjncmjbhfdnpaaGreatA10
import Derived.Test.YtfjncmjbhfdnpaaGreatLw1
import Derived.Test.YtfjncmjbhfdnpaaGreatSn3
import Derived.Test.YtfjncmjbhfdnpaaGreatSame
set_option linter.unusedVariables false
namespace Go.Eng
open Go.Proofs Num Lp
theorem rat2 {H : Heap} {N g : Nat} {t u : RC} {a b : Rat} (hg : H g = none) (h1 : RawV H t.v a N) (h2 : RawV H u.v b N) : SlV (RatP N) 3 (ins H g (whole (cellsL [t.v, u.v]) 31)) (.slice (some ⟨g, 0, none⟩) 2 2) [a, b] :=
  ⟨_, 2, _, rfl, Nat.le_refl _, rd_ins _ _ _ _ _ _, els_cons (P := RatP N _) (vs := [.bool t.f, .slice t.A1 t.m1 t.c1, .slice t.A2 t.m2 t.c2]) (RawV.le h1 (Heap.le_ins _ hg)) rfl (els_one (P := RatP N _) (vs := [.bool u.f, .slice u.A1 u.m1 u.c1, .slice u.A2 u.m2 u.c2]) (RawV.le h2 (Heap.le_ins _ hg)) rfl)⟩
theorem vec2 {H : Heap} {N g : Nat} {A B : Option Addr} {c d : Nat} {a b : List Rat} (hg : H g = none) (h1 : SlV (RatP N) 3 H (.slice A a.length c) a) (h2 : SlV (RatP N) 3 H (.slice B b.length d) b) : LsV N (ins H g (whole (cellsL [.slice A a.length c, .slice B b.length d]) 26)) (.slice (some ⟨g, 0, none⟩) 2 2) [a, b] :=
  ⟨_, 2, _, rfl, Nat.le_refl _, rd_ins _ _ _ _ _ _, els_cons (P := VecP N _) (vs := [.slice A a.length c]) ⟨_, _, rfl, h1.le (ratUp N) (Heap.le_ins _ hg)⟩ rfl (els_one (P := VecP N _) (vs := [.slice B b.length d]) ⟨_, _, rfl, h2.le (ratUp N) (Heap.le_ins _ hg)⟩ rfl)⟩
theorem bool2 {H : Heap} {g : Nat} {a b : Bool} : SlV BoolP 1 (ins H g (whole (cellsL [.bool a, .bool b]) 4)) (.slice (some ⟨g, 0, none⟩) 2 2) [a, b] :=
  ⟨_, 2, _, rfl, Nat.le_refl _, rd_ins _ _ _ _ _ _, els_cons (P := BoolP _) (vs := [.bool a]) rfl rfl (els_one (P := BoolP _) (vs := [.bool b]) rfl rfl)⟩
theorem row1 {H : Heap} {N g : Nat} {A : Option Addr} {c : Nat} {a : List Rat} {z : Int} {t : RC} {b : Rat} (hg : H g = none) (h1 : SlV (RatP N) 3 H (.slice A a.length c) a) (h2 : RawV H t.v b N) : SlV (RowP N) 5 (ins H g (whole (cellsL [.agg #[.slice A a.length c, .int .i64 z, .bool t.f, .slice t.A1 t.m1 t.c1, .slice t.A2 t.m2 t.c2]]) 78)) (.slice (some ⟨g, 0, none⟩) 1 1) [(a, z, b)] :=
  ⟨_, 1, _, rfl, Nat.le_refl _, rd_ins _ _ _ _ _ _, els_one (P := RowP N _) (vs := [.slice A a.length c, .int .i64 z, .bool t.f, .slice t.A1 t.m1 t.c1, .slice t.A2 t.m2 t.c2]) ⟨_, _, _, _, rfl, h1.le (ratUp N) (Heap.le_ins _ hg), RawV.le h2 (Heap.le_ins _ hg)⟩ rfl⟩
theorem can_two {H : Heap} {v : Value} {q : Rat} (h : CanV H v q) (hz : szQ q ≤ 2) : RawV H v q 2 := (CanV.raw h).mono hz
theorem sane3_ok {H : Heap} :
  Fn Tryz.prog 15 #[] H (fun v H' => Heap.le H H' ∧ v = .bool true) := by
 refine fn_intro (args := []) Tryz.func15 rfl rfl Tryz.ntmps15 rfl rfl fun w0 => ?_; refine vc_keep [] rfl ?_; refine vc_sr ?_; refine vr 1 ?_; refine vco_k [] ?_; refine vc_sr ?_; refine vco_call rfl rfl (Fn.rc (rFromInt_ok (n := 0) (by decide) (by decide))) ?_; rintro _ H1 ⟨hH1, t0, rfl, qt0⟩
 replace qt0 : RawV H1 t0.v (0 : Rat) 2 := can_two qt0 (show szQ (0 : Rat) ≤ 2 by decide)
 refine vco_call rfl rfl (Fn.rc (rFromInt_ok (n := 1) (by decide) (by decide))) ?_; rintro _ H2 ⟨hH2, t1, rfl, qt1⟩
 replace qt1 : RawV H2 t1.v (1 : Rat) 2 := can_two qt1 (show szQ (1 : Rat) ≤ 2 by decide)
 refine vco_call rfl rfl (Fn.rc (rFromInt_ok (n := 2) (by decide) (by decide))) ?_; rintro _ H3 ⟨hH3, t2, rfl, qt2⟩
 replace qt2 : RawV H3 t2.v (2 : Rat) 2 := can_two qt2 (show szQ (2 : Rat) ≤ 2 by decide)
 have z0 := (qt0.le hH2).le hH3; have z1 := qt1.le hH3; have l03 := hH1.trans (hH2.trans hH3); refine vco_alloc el31 rfl ?_; refine vco_alloc el31 rfl ?_; refine vco_alloc el31 rfl ?_; obtain ⟨ti, hti, htz⟩ := sz31; refine vco_bstore (.inl ⟨rfl, rfl⟩) rfl rfl rfl hti htz rfl rfl rfl ?_; obtain ⟨ti, hti, htz⟩ := sz31; refine vco_bstore (.inl ⟨rfl, rfl⟩) rfl rfl rfl hti htz rfl rfl rfl ?_; obtain ⟨ti, hti, htz⟩ := sz31; refine vco_bstore (.inl ⟨rfl, rfl⟩) rfl rfl rfl hti htz rfl rfl rfl ?_; refine vco_k [1, 2, 3] ?_; refine vc_sr ?_; refine vco_build Tryz.underlying22 el4 rfl rfl rfl rfl rfl rfl rfl ?_; intro ga hga; have hF := bool2 (H := H3) (g := ga) (a := false) (b := false); have la := Heap.le_ins (whole (cellsL [.bool false, .bool false]) 4) hga
 show VCO _ _ _ _ _ _ (ins H3 ga (whole (cellsL [.bool false, .bool false]) 4)) _
 generalize ins H3 ga (whole (cellsL [.bool false, .bool false]) 4) = Ha at hF la ⊢
 refine vr 2 ?_; refine vco_build Tryz.underlying26 el31 rfl rfl rfl rfl rfl rfl rfl ?_; intro gb hgb; have hC := rat2 (N := 2) hgb (z1.le la) (z1.le la); have lb := Heap.le_ins (whole (cellsL [t1.v, t1.v]) 31) hgb
 show VCO _ _ _ _ _ _ (ins Ha gb (whole (cellsL [t1.v, t1.v]) 31)) _
 generalize ins Ha gb (whole (cellsL [t1.v, t1.v]) 31) = Hb at hC lb ⊢
 refine vr 1 ?_; refine vco_st tbOk rfl el78 rfl rfl ?_; refine vco_build Tryz.underlying23 el78 rfl rfl rfl rfl rfl rfl rfl ?_; intro gc hgc; have hR := row1 (a := [1, 1]) (z := 3) hgc hC ((qt2.le la).le lb); have lc := Heap.le_ins (whole (cellsL [.agg #[.slice (some ⟨gb, 0, none⟩) 2 2, .int .i64 3, .bool t2.f, .slice t2.A1 t2.m1 t2.c1, .slice t2.A2 t2.m2 t2.c2]]) 78) hgc; have hP : ProgV 2 _ (.agg #[.slice (some ⟨ga, 0, none⟩) 2 2, .slice (some ⟨gc, 0, none⟩) 1 1]) lp3 := ⟨_, _, rfl, (hF.le boolUp lb).le boolUp lc, hR⟩; have l3c := la.trans (lb.trans lc)
 change ProgV 2 (ins Hb gc (whole (cellsL [.agg #[.slice (some ⟨gb, 0, none⟩) 2 2, .int .i64 3, .bool t2.f, .slice t2.A1 t2.m1 t2.c1, .slice t2.A2 t2.m2 t2.c2]]) 78)) _ _ at hP
 show VCO _ _ _ _ _ _ (ins Hb gc (whole (cellsL [.agg #[.slice (some ⟨gb, 0, none⟩) 2 2, .int .i64 3, .bool t2.f, .slice t2.A1 t2.m1 t2.c1, .slice t2.A2 t2.m2 t2.c2]]) 78)) _
 generalize ins Hb gc (whole (cellsL [.agg #[.slice (some ⟨gb, 0, none⟩) 2 2, .int .i64 3, .bool t2.f, .slice t2.A1 t2.m1 t2.c1, .slice t2.A2 t2.m2 t2.c2]]) 78) = Hc at hP l3c ⊢
 refine vco_st tbOk rfl el25 rfl rfl ?_; refine vco_alloc el25 rfl ?_; obtain ⟨ti, hti, htz⟩ := sz25; refine vco_bstore (.inl ⟨rfl, rfl⟩) rfl rfl rfl hti htz rfl rfl rfl ?_; refine vco_k [1, 2, 3, 4] ?_; refine vc_sr ?_; refine vr 3 ?_; refine vco_build Tryz.underlying26 el31 rfl rfl rfl rfl rfl rfl rfl ?_; intro gd hgd; have hO1 := rat2 (N := 2) hgd (z1.le l3c) (z0.le l3c); have ld := Heap.le_ins (whole (cellsL [t1.v, t0.v]) 31) hgd
 show VCO _ _ _ _ _ _ (ins Hc gd (whole (cellsL [t1.v, t0.v]) 31)) _
 generalize ins Hc gd (whole (cellsL [t1.v, t0.v]) 31) = Hd at hO1 ld ⊢
 refine vr 2 ?_; refine vco_build Tryz.underlying26 el31 rfl rfl rfl rfl rfl rfl rfl ?_; intro ge hge; have hO2 := rat2 (N := 2) hge ((z0.le l3c).le ld) ((z1.le l3c).le ld); have le := Heap.le_ins (whole (cellsL [t0.v, t1.v]) 31) hge
 show VCO _ _ _ _ _ _ (ins Hd ge (whole (cellsL [t0.v, t1.v]) 31)) _
 generalize ins Hd ge (whole (cellsL [t0.v, t1.v]) 31) = He at hO2 le ⊢
 refine vco_build Tryz.underlying40 el26 rfl rfl rfl rfl rfl rfl rfl ?_; intro gf hgf; have hO := vec2 (N := 2) (a := [1, 0]) (b := [0, 1]) hgf (hO1.le (ratUp 2) le) hO2; have lf := Heap.le_ins (whole (cellsL [.slice (some ⟨gd, 0, none⟩) 2 2, .slice (some ⟨ge, 0, none⟩) 2 2]) 26) hgf
 change LsV 2 (ins He gf (whole (cellsL [.slice (some ⟨gd, 0, none⟩) 2 2, .slice (some ⟨ge, 0, none⟩) 2 2]) 26)) _ _ at hO
 show VCO _ _ _ _ _ _ (ins He gf (whole (cellsL [.slice (some ⟨gd, 0, none⟩) 2 2, .slice (some ⟨ge, 0, none⟩) 2 2]) 26)) _
 generalize ins He gf (whole (cellsL [.slice (some ⟨gd, 0, none⟩) 2 2, .slice (some ⟨ge, 0, none⟩) 2 2]) 26) = Hf at hO lf ⊢
 have lcf := ld.trans (le.trans lf); refine vco_call rfl rfl (lexMin_ok (N := 2) (p := lp3) (os := lo3) (hP.le lcf) hO (by decide) (by decide) (fun _ => lp3_sz)) ?_; rintro _ H4 ⟨hl4, s, e, rfl, hE, hcs⟩; have he := lexE_unique hE (.inr (.inr (.inr ⟨lp3_fine, rfl⟩))); subst he; obtain ⟨h9, _⟩ | ⟨_, S, ⟨A1, c1, A2, c2, A3, c3, A4, c4, rfl, hv1, hv2, hv3, hv4⟩, hchk⟩ := hcs
 · exact absurd rfl h9
 obtain ⟨hst, hvs⟩ := lex_unique hchk.sem lp3_lex; obtain ⟨st, vs, x, ds, ry⟩ := S
 simp only at hst hvs
 subst hst; subst hvs
 simp only at hv1
 have l34 := l3c.trans (lcf.trans hl4); refine vr 3 ?_; refine vco_alloc el43 rfl ?_; obtain ⟨ti, hti, htz⟩ := sz43; refine vco_bstore (.inl ⟨rfl, rfl⟩) rfl rfl rfl hti htz rfl rfl rfl ?_; refine vr 1 ?_; refine vco_k [1, 3, 4, 5, 6] ?_; refine vc_sr ?_; refine vr 1 ?_; refine vco_call rfl rfl (least_ok (N := 2) (l := [0, 1]) ((hP.le lcf).le hl4) (by decide) (fun _ => lp3_lsz)) ?_; rintro _ H5 ⟨hl5, B, k, cb, e, rfl, hcs⟩; obtain ⟨h9, _⟩ | ⟨_, ⟨j, hj⟩, _⟩ | ⟨_, _, h9, _⟩ | ⟨_, _, rfl, y, hy, hys⟩ := hcs
 · exact absurd lp3_ok h9
 · exact absurd hj (by match j with | 0 => decide | 1 => decide | j + 2 => simp [lp3])
 · exact absurd m02 (h9 _)
 have hy2 := lexMin_unique hy lp3_least rfl hy.meets m02; subst hy2; have l45 := l34.trans hl5; refine vr 5 ?_; refine vco_k [1, 3, 5, 6, 7, 8] ?_; refine vc_sr ?_; refine vr 9 ?_; refine vco_cmp true rfl rfl (ceq_t rfl) ?_; refine vr 6 ?_; refine vco_build Tryz.underlying26 el31 rfl rfl rfl rfl rfl rfl rfl ?_; intro gg hgg; have hW := (rat2 (N := 2) hgg (z0.le l45) (qt2.le l45)).mono (P' := RatP KX) fun _ _ h => RatP.mono h (by decide); have lg := Heap.le_ins (whole (cellsL [t0.v, t2.v]) 31) hgg
 show VCO _ _ _ _ _ _ (ins H5 gg (whole (cellsL [t0.v, t2.v]) 31)) _
 generalize ins H5 gg (whole (cellsL [t0.v, t2.v]) 31) = Hg at hW lg ⊢
 refine vco_call rfl rfl (sameRats_ok (l := [0, 2]) ((hv1.le (ratUp KX) hl5).le (ratUp KX) lg) hW (by decide) (by decide)) ?_; rintro _ H6 ⟨hl6, rfl⟩; have l56 := lg.trans hl6; refine vr 5 ?_; refine vco_build Tryz.underlying26 el31 rfl rfl rfl rfl rfl rfl rfl ?_; intro gh hgh; have hW2 := (rat2 (N := 2) hgh ((z0.le l45).le l56) ((qt2.le l45).le l56)).mono (P' := RatP KX) fun _ _ h => RatP.mono h (by decide); have lh := Heap.le_ins (whole (cellsL [t0.v, t2.v]) 31) hgh
 show VCO _ _ _ _ _ _ (ins H6 gh (whole (cellsL [t0.v, t2.v]) 31)) _
 generalize ins H6 gh (whole (cellsL [t0.v, t2.v]) 31) = Hh at hW2 lh ⊢
 refine vco_call rfl rfl (sameRats_ok (l := [0, 2]) ((hys.le (ratUp KX) l56).le (ratUp KX) lh) hW2 (by decide) (by decide)) ?_; rintro _ H7 ⟨hl7, rfl⟩; refine vr 2 ?_; refine vco_k [0] ?_; refine vc_ret ⟨.inr rfl, _, .tmp rfl (.nil), ?_⟩; exact ⟨l03.trans (l45.trans (l56.trans (lh.trans hl7))), rfl⟩
end Go.Eng
