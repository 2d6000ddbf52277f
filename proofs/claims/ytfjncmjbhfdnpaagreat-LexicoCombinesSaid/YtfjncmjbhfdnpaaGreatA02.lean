/- Part 2 of the proof: Ty, Num, Dat, Nat1, Nat2, Nat3, Nat4, Nat5, Nat6, Nat7, Nat8, Knu. -/
import Derived.Test.YtfjncmjbhfdnpaaGreatA01
import Derived.Test.YtfjncmjbhfdnpaaGreatProg
import Derived.KernelRfl
set_option linter.unusedVariables false
/- The table of the types of the loaded program, for the engine. Written by ty.py. -/
namespace Go.Eng
open Go.Proofs
def tb : Tb := [
  .no, .no, .it .i64, .it .i64, .ce, .it .u8, .it .u8, .st 4 [(0, 1), (1, 1), (2, 1), (3, 1)],
  .no, .no, .no, .no, .it .u64, .st 2 [(0, 1), (1, 1)], .no, .ce,
  .ce, .ce, .st 1 [(0, 1)], .no, .no, .it .i32, .sl 4 1, .sl 78 5,
  .st 2 [(0, 1), (1, 1)], .st 2 [(0, 1), (1, 1)], .sl 31 3, .no, .no, .sl 121 1, .st 3 [(0, 1), (1, 1), (2, 1)], .st 3 [(0, 1), (1, 1), (2, 1)],
  .st 7 [(0, 1), (1, 3), (4, 1), (5, 1), (6, 1)], .st 7 [(0, 1), (1, 3), (4, 1), (5, 1), (6, 1)], .it .i64, .no, .no, .no, .no, .no,
  .sl 26 1, .no, .st 5 [(0, 1), (1, 1), (2, 1), (3, 1), (4, 1)], .st 5 [(0, 1), (1, 1), (2, 1), (3, 1), (4, 1)], .no, .no, .no, .no,
  .no, .it .i8, .no, .no, .no, .no, .no, .no,
  .no, .no, .no, .no, .no, .no, .no, .sl 66 2,
  .sl 131 2, .st 2 [(0, 1), (1, 1)], .st 2 [(0, 1), (1, 1)], .no, .no, .no, .no, .no,
  .no, .no, .no, .no, .no, .st 5 [(0, 1), (1, 1), (2, 3)], .st 5 [(0, 1), (1, 1), (2, 3)], .no,
  .no, .no, .ce, .no, .no, .sl 90 3, .no, .no,
  .ce, .st 3 [(0, 1), (1, 1), (2, 1)], .st 3 [(0, 1), (1, 1), (2, 1)], .no, .no, .no, .sl 3 1, .sl 85 1,
  .st 9 [(0, 1), (1, 1), (2, 1), (3, 1), (4, 1), (5, 1), (6, 1), (7, 1), (8, 1)], .st 9 [(0, 1), (1, 1), (2, 1), (3, 1), (4, 1), (5, 1), (6, 1), (7, 1), (8, 1)], .no, .no, .no, .no, .st 2 [(0, 1), (1, 1)], .st 2 [(0, 1), (1, 1)],
  .no, .no, .no, .no, .no, .no, .no, .no,
  .no, .no, .no, .no, .no, .no, .no, .no,
  .it .u64, .it .u32, .no, .no, .no, .no, .no, .no,
  .no, .no, .st 2 [(0, 1), (1, 1)], .st 2 [(0, 1), (1, 1)], .no, .no, .no, .no,
  .no, .no, .no, .no, .no, .no, .no, .no,
  .no, .no, .sl 2 1, .no, .no, .no, .no, .no,
  .no, .no, .no, .no, .no, .ce, .sl 161 1, .st 3 [(0, 1), (1, 1), (2, 1)],
  .st 3 [(0, 1), (1, 1), (2, 1)], .sl 163 2, .st 2 [(0, 1), (1, 1)], .st 2 [(0, 1), (1, 1)], .no, .no, .no, .no,
  .no, .no, .no, .no, .no, .no, .no, .no,
  .no, .sl 121 1, .st 3 [(0, 1), (1, 1), (2, 1)], .st 3 [(0, 1), (1, 1), (2, 1)], .no, .no, .no, .no,
  .no, .no, .no, .no, .no, .no, .no, .no,
  .no, .no, .no, .no, .no, .no, .no, .no,
  .no, .no, .no, .no, .no, .no, .no, .no,
  .no, .no, .no, .no, .no, .it .u64, .no, .no,
  .no, .no, .no, .it .i64, .no, .no, .no, .no,
  .no, .no, .no, .no, .no, .no, .no, .no,
  .no, .no, .no, .it .u64, .no, .no, .no, .ce,
  .no, .ce, .no, .no, .no, .st 4 [(0, 1), (1, 1), (2, 1), (3, 1)]]
def TbFrom (P : Program) : Nat → Tb → Prop
  | _, [] => True
  | k, x :: r => TiOk P k x ∧ TbFrom P (k + 1) r
theorem TbFrom.out {P : Program} : ∀ (r : Tb) (k : Nat), TbFrom P k r → ∀ (t : Nat) (x : Ti), r[t]? = some x → TiOk P (k + t) x := by
  intro r
  induction r with
  | nil => intro k _ t x h; simp at h
  | cons y r ih =>
    intro k h t x hx
    cases t with
    | zero => simp only [List.getElem?_cons_zero, Option.some.injEq] at hx; subst hx; exact h.1
    | succ t => have := ih (k + 1) h.2 t x (by simpa using hx); rwa [show k + (t + 1) = k + 1 + t by omega]
theorem sl_of {P : Program} {t e sz : Nat} (hu : P.underlying t = some (.slice e)) (h : (P.info? e).map (·.size) = some sz) : TiOk P t (.sl e sz) := by
  refine ⟨hu, ?_⟩
  cases hi : P.info? e with
  | none => rw [hi] at h; cases h
  | some i => rw [hi] at h; exact ⟨i, rfl, by simpa using h⟩
theorem it_of {P : Program} {t : Nat} {k : IntKind} (hu : P.underlying t = some (.int k)) : TiOk P t (.it k) := hu
theorem ce_of {P : Program} {t : Nat} {d : TypeDesc} (hu : P.underlying t = some d) (h : (match d with | .struct _ | .array .. => false | _ => true) = true) : TiOk P t .ce :=
  ⟨d, hu, (fun _ e => by subst e; cases h), (fun _ _ e => by subst e; cases h)⟩
def fieldsB (P : Program) (fs : List Field) (ps : List (Nat × Nat)) : Bool :=
  match fs, ps with
  | [], [] => true
  | f :: fs, p :: ps => Nat.beq f.offset p.1 && (match P.info? f.type with | some j => Nat.beq j.size p.2 | none => false) && !Nat.beq p.2 0 && fieldsB P fs ps
  | _, _ => false
theorem fieldsB_out {P : Program} : ∀ (fs : List Field) (ps : List (Nat × Nat)), fieldsB P fs ps = true → fs.length = ps.length ∧ ∀ (f : Nat) (p : Nat × Nat), ps[f]? = some p → ∃ fd j, fs[f]? = some fd ∧ fd.offset = p.1 ∧ P.info? fd.type = some j ∧ j.size = p.2 ∧ p.2 ≠ 0 := by
  intro fs
  induction fs with
  | nil => intro ps h; cases ps with
    | nil => exact ⟨rfl, fun f p hp => by simp at hp⟩
    | cons p ps => cases h
  | cons fd fs ih => intro ps h; cases ps with
    | nil => cases h
    | cons p ps =>
      simp only [fieldsB, Bool.and_eq_true] at h
      obtain ⟨⟨⟨h1, h2⟩, h3⟩, h4⟩ := h
      obtain ⟨h5, h6⟩ := ih ps h4
      refine ⟨by simp [h5], fun f q hq => ?_⟩
      cases f with
      | zero =>
        simp only [List.getElem?_cons_zero, Option.some.injEq] at hq
        subst hq
        cases hj : P.info? fd.type with
        | none => rw [hj] at h2; cases h2
        | some j =>
          rw [hj] at h2
          exact ⟨fd, j, rfl, Nat.eq_of_beq_eq_true h1, hj, Nat.eq_of_beq_eq_true h2, fun e => by rw [e] at h3; cases h3⟩
      | succ f => obtain ⟨fd', j, h7⟩ := h6 f q (by simpa using hq); exact ⟨fd', j, by simpa using h7⟩
theorem st_of {P : Program} {t n : Nat} {fs : List Field} {ps : List (Nat × Nat)} (hu : P.underlying t = some (.struct fs.toArray)) (h : (P.info? t).map (·.size) = some n) (hf : fieldsB P fs ps = true) : TiOk P t (.st n ps) := by
  cases hi : P.info? t with
  | none => rw [hi] at h; cases h
  | some i =>
    obtain ⟨h1, h2⟩ := fieldsB_out fs ps hf
    rw [hi] at h
    exact ⟨fs.toArray, i, hu, hi, by simpa using h, by simpa using h1, fun f p hp => by obtain ⟨fd, j, h3⟩ := h2 f p hp; exact ⟨fd, j, by simpa using h3⟩⟩
theorem el_of {P : Program} {e sz bytes : Nat} {z : Value} (h : (P.info? e).map (fun i => (i.zero, i.size, i.bytes)) = some (some z, sz, bytes)) (hz : z.cells.size = sz) (hp : 0 < sz) : ElT P e sz z bytes := by
  cases hi : P.info? e with
  | none => rw [hi] at h; cases h
  | some i =>
    rw [hi] at h
    simp only [Option.map_some, Option.some.injEq, Prod.mk.injEq] at h
    exact ⟨i, hi, h.1, h.2.1, h.2.2, hz, hp⟩
theorem ti2 : TiOk Tryz.prog 2 (.it .i64) := it_of Tryz.underlying2
theorem ti3 : TiOk Tryz.prog 3 (.it .i64) := it_of Tryz.underlying3
theorem ti4 : TiOk Tryz.prog 4 (.ce) := ce_of Tryz.underlying4 rfl
theorem ti5 : TiOk Tryz.prog 5 (.it .u8) := it_of Tryz.underlying5
theorem ti6 : TiOk Tryz.prog 6 (.it .u8) := it_of Tryz.underlying6
theorem ti7 : TiOk Tryz.prog 7 (.st 4 [(0, 1), (1, 1), (2, 1), (3, 1)]) := st_of Tryz.underlying7 (by kernel_rfl) (by kernel_rfl)
theorem ti12 : TiOk Tryz.prog 12 (.it .u64) := it_of Tryz.underlying12
theorem ti13 : TiOk Tryz.prog 13 (.st 2 [(0, 1), (1, 1)]) := st_of Tryz.underlying13 (by kernel_rfl) (by kernel_rfl)
theorem ti15 : TiOk Tryz.prog 15 (.ce) := ce_of Tryz.underlying15 rfl
theorem ti16 : TiOk Tryz.prog 16 (.ce) := ce_of Tryz.underlying16 rfl
theorem ti17 : TiOk Tryz.prog 17 (.ce) := ce_of Tryz.underlying17 rfl
theorem ti18 : TiOk Tryz.prog 18 (.st 1 [(0, 1)]) := st_of Tryz.underlying18 (by kernel_rfl) (by kernel_rfl)
theorem ti21 : TiOk Tryz.prog 21 (.it .i32) := it_of Tryz.underlying21
theorem ti22 : TiOk Tryz.prog 22 (.sl 4 1) := sl_of Tryz.underlying22 (by kernel_rfl)
theorem ti23 : TiOk Tryz.prog 23 (.sl 78 5) := sl_of Tryz.underlying23 (by kernel_rfl)
theorem ti24 : TiOk Tryz.prog 24 (.st 2 [(0, 1), (1, 1)]) := st_of Tryz.underlying24 (by kernel_rfl) (by kernel_rfl)
theorem ti25 : TiOk Tryz.prog 25 (.st 2 [(0, 1), (1, 1)]) := st_of Tryz.underlying25 (by kernel_rfl) (by kernel_rfl)
theorem ti26 : TiOk Tryz.prog 26 (.sl 31 3) := sl_of Tryz.underlying26 (by kernel_rfl)
theorem ti29 : TiOk Tryz.prog 29 (.sl 121 1) := sl_of Tryz.underlying29 (by kernel_rfl)
theorem ti30 : TiOk Tryz.prog 30 (.st 3 [(0, 1), (1, 1), (2, 1)]) := st_of Tryz.underlying30 (by kernel_rfl) (by kernel_rfl)
theorem ti31 : TiOk Tryz.prog 31 (.st 3 [(0, 1), (1, 1), (2, 1)]) := st_of Tryz.underlying31 (by kernel_rfl) (by kernel_rfl)
theorem ti32 : TiOk Tryz.prog 32 (.st 7 [(0, 1), (1, 3), (4, 1), (5, 1), (6, 1)]) := st_of Tryz.underlying32 (by kernel_rfl) (by kernel_rfl)
theorem ti33 : TiOk Tryz.prog 33 (.st 7 [(0, 1), (1, 3), (4, 1), (5, 1), (6, 1)]) := st_of Tryz.underlying33 (by kernel_rfl) (by kernel_rfl)
theorem ti34 : TiOk Tryz.prog 34 (.it .i64) := it_of Tryz.underlying34
theorem ti40 : TiOk Tryz.prog 40 (.sl 26 1) := sl_of Tryz.underlying40 (by kernel_rfl)
theorem ti42 : TiOk Tryz.prog 42 (.st 5 [(0, 1), (1, 1), (2, 1), (3, 1), (4, 1)]) := st_of Tryz.underlying42 (by kernel_rfl) (by kernel_rfl)
theorem ti43 : TiOk Tryz.prog 43 (.st 5 [(0, 1), (1, 1), (2, 1), (3, 1), (4, 1)]) := st_of Tryz.underlying43 (by kernel_rfl) (by kernel_rfl)
theorem ti49 : TiOk Tryz.prog 49 (.it .i8) := it_of Tryz.underlying49
theorem ti63 : TiOk Tryz.prog 63 (.sl 66 2) := sl_of Tryz.underlying63 (by kernel_rfl)
theorem ti64 : TiOk Tryz.prog 64 (.sl 131 2) := sl_of Tryz.underlying64 (by kernel_rfl)
theorem ti65 : TiOk Tryz.prog 65 (.st 2 [(0, 1), (1, 1)]) := st_of Tryz.underlying65 (by kernel_rfl) (by kernel_rfl)
theorem ti66 : TiOk Tryz.prog 66 (.st 2 [(0, 1), (1, 1)]) := st_of Tryz.underlying66 (by kernel_rfl) (by kernel_rfl)
theorem ti77 : TiOk Tryz.prog 77 (.st 5 [(0, 1), (1, 1), (2, 3)]) := st_of Tryz.underlying77 (by kernel_rfl) (by kernel_rfl)
theorem ti78 : TiOk Tryz.prog 78 (.st 5 [(0, 1), (1, 1), (2, 3)]) := st_of Tryz.underlying78 (by kernel_rfl) (by kernel_rfl)
theorem ti82 : TiOk Tryz.prog 82 (.ce) := ce_of Tryz.underlying82 rfl
theorem ti85 : TiOk Tryz.prog 85 (.sl 90 3) := sl_of Tryz.underlying85 (by kernel_rfl)
theorem ti88 : TiOk Tryz.prog 88 (.ce) := ce_of Tryz.underlying88 rfl
theorem ti89 : TiOk Tryz.prog 89 (.st 3 [(0, 1), (1, 1), (2, 1)]) := st_of Tryz.underlying89 (by kernel_rfl) (by kernel_rfl)
theorem ti90 : TiOk Tryz.prog 90 (.st 3 [(0, 1), (1, 1), (2, 1)]) := st_of Tryz.underlying90 (by kernel_rfl) (by kernel_rfl)
theorem ti94 : TiOk Tryz.prog 94 (.sl 3 1) := sl_of Tryz.underlying94 (by kernel_rfl)
theorem ti95 : TiOk Tryz.prog 95 (.sl 85 1) := sl_of Tryz.underlying95 (by kernel_rfl)
theorem ti96 : TiOk Tryz.prog 96 (.st 9 [(0, 1), (1, 1), (2, 1), (3, 1), (4, 1), (5, 1), (6, 1), (7, 1), (8, 1)]) := st_of Tryz.underlying96 (by kernel_rfl) (by kernel_rfl)
theorem ti97 : TiOk Tryz.prog 97 (.st 9 [(0, 1), (1, 1), (2, 1), (3, 1), (4, 1), (5, 1), (6, 1), (7, 1), (8, 1)]) := st_of Tryz.underlying97 (by kernel_rfl) (by kernel_rfl)
theorem ti102 : TiOk Tryz.prog 102 (.st 2 [(0, 1), (1, 1)]) := st_of Tryz.underlying102 (by kernel_rfl) (by kernel_rfl)
theorem ti103 : TiOk Tryz.prog 103 (.st 2 [(0, 1), (1, 1)]) := st_of Tryz.underlying103 (by kernel_rfl) (by kernel_rfl)
theorem ti120 : TiOk Tryz.prog 120 (.it .u64) := it_of Tryz.underlying120
theorem ti121 : TiOk Tryz.prog 121 (.it .u32) := it_of Tryz.underlying121
theorem ti130 : TiOk Tryz.prog 130 (.st 2 [(0, 1), (1, 1)]) := st_of Tryz.underlying130 (by kernel_rfl) (by kernel_rfl)
theorem ti131 : TiOk Tryz.prog 131 (.st 2 [(0, 1), (1, 1)]) := st_of Tryz.underlying131 (by kernel_rfl) (by kernel_rfl)
theorem ti146 : TiOk Tryz.prog 146 (.sl 2 1) := sl_of Tryz.underlying146 (by kernel_rfl)
theorem ti157 : TiOk Tryz.prog 157 (.ce) := ce_of Tryz.underlying157 rfl
theorem ti158 : TiOk Tryz.prog 158 (.sl 161 1) := sl_of Tryz.underlying158 (by kernel_rfl)
theorem ti159 : TiOk Tryz.prog 159 (.st 3 [(0, 1), (1, 1), (2, 1)]) := st_of Tryz.underlying159 (by kernel_rfl) (by kernel_rfl)
theorem ti160 : TiOk Tryz.prog 160 (.st 3 [(0, 1), (1, 1), (2, 1)]) := st_of Tryz.underlying160 (by kernel_rfl) (by kernel_rfl)
theorem ti161 : TiOk Tryz.prog 161 (.sl 163 2) := sl_of Tryz.underlying161 (by kernel_rfl)
theorem ti162 : TiOk Tryz.prog 162 (.st 2 [(0, 1), (1, 1)]) := st_of Tryz.underlying162 (by kernel_rfl) (by kernel_rfl)
theorem ti163 : TiOk Tryz.prog 163 (.st 2 [(0, 1), (1, 1)]) := st_of Tryz.underlying163 (by kernel_rfl) (by kernel_rfl)
theorem ti177 : TiOk Tryz.prog 177 (.sl 121 1) := sl_of Tryz.underlying177 (by kernel_rfl)
theorem ti178 : TiOk Tryz.prog 178 (.st 3 [(0, 1), (1, 1), (2, 1)]) := st_of Tryz.underlying178 (by kernel_rfl) (by kernel_rfl)
theorem ti179 : TiOk Tryz.prog 179 (.st 3 [(0, 1), (1, 1), (2, 1)]) := st_of Tryz.underlying179 (by kernel_rfl) (by kernel_rfl)
theorem ti213 : TiOk Tryz.prog 213 (.it .u64) := it_of Tryz.underlying213
theorem ti219 : TiOk Tryz.prog 219 (.it .i64) := it_of Tryz.underlying219
theorem ti235 : TiOk Tryz.prog 235 (.it .u64) := it_of Tryz.underlying235
theorem ti239 : TiOk Tryz.prog 239 (.ce) := ce_of Tryz.underlying239 rfl
theorem ti241 : TiOk Tryz.prog 241 (.ce) := ce_of Tryz.underlying241 rfl
theorem ti245 : TiOk Tryz.prog 245 (.st 4 [(0, 1), (1, 1), (2, 1), (3, 1)]) := st_of Tryz.underlying245 (by kernel_rfl) (by kernel_rfl)
set_option maxRecDepth 10000 in
theorem tb_from : TbFrom Tryz.prog 0 tb := ⟨trivial, trivial, ti2, ti3, ti4, ti5, ti6, ti7, trivial, trivial, trivial, trivial, ti12, ti13, trivial, ti15, ti16, ti17, ti18, trivial, trivial, ti21, ti22, ti23, ti24, ti25, ti26, trivial, trivial, ti29, ti30, ti31, ti32, ti33, ti34, trivial, trivial, trivial, trivial, trivial, ti40, trivial, ti42, ti43, trivial, trivial, trivial, trivial, trivial, ti49, trivial, trivial, trivial, trivial, trivial, trivial, trivial, trivial, trivial, trivial, trivial, trivial, trivial, ti63, ti64, ti65, ti66, trivial, trivial, trivial, trivial, trivial, trivial, trivial, trivial, trivial, trivial, ti77, ti78, trivial, trivial, trivial, ti82, trivial, trivial, ti85, trivial, trivial, ti88, ti89, ti90, trivial, trivial, trivial, ti94, ti95, ti96, ti97, trivial, trivial, trivial, trivial, ti102, ti103, trivial, trivial, trivial, trivial, trivial, trivial, trivial, trivial, trivial, trivial, trivial, trivial, trivial, trivial, trivial, trivial, ti120, ti121, trivial, trivial, trivial, trivial, trivial, trivial, trivial, trivial, ti130, ti131, trivial, trivial, trivial, trivial, trivial, trivial, trivial, trivial, trivial, trivial, trivial, trivial, trivial, trivial, ti146, trivial, trivial, trivial, trivial, trivial, trivial, trivial, trivial, trivial, trivial, ti157, ti158, ti159, ti160, ti161, ti162, ti163, trivial, trivial, trivial, trivial, trivial, trivial, trivial, trivial, trivial, trivial, trivial, trivial, trivial, ti177, ti178, ti179, trivial, trivial, trivial, trivial, trivial, trivial, trivial, trivial, trivial, trivial, trivial, trivial, trivial, trivial, trivial, trivial, trivial, trivial, trivial, trivial, trivial, trivial, trivial, trivial, trivial, trivial, trivial, trivial, trivial, trivial, trivial, trivial, trivial, ti213, trivial, trivial, trivial, trivial, trivial, ti219, trivial, trivial, trivial, trivial, trivial, trivial, trivial, trivial, trivial, trivial, trivial, trivial, trivial, trivial, trivial, ti235, trivial, trivial, trivial, ti239, trivial, ti241, trivial, trivial, trivial, ti245, trivial⟩
theorem tbOk : TbOk Tryz.prog tb := fun t x h => by have := TbFrom.out tb 0 tb_from t x h; rwa [Nat.zero_add] at this
theorem follows : Tryz.prog.follows .mixedOrders = true := by kernel_rfl
theorem el2 : ElT Tryz.prog 2 1 (.int .i64 0) 8 := el_of (by kernel_rfl) rfl (by decide)
theorem sz2 : ∃ i, Tryz.prog.info? 2 = some i ∧ i.size = 1 := by obtain ⟨i, h, _, h2, _⟩ := el2; exact ⟨i, h, h2⟩
theorem el3 : ElT Tryz.prog 3 1 (.int .i64 0) 8 := el_of (by kernel_rfl) rfl (by decide)
theorem sz3 : ∃ i, Tryz.prog.info? 3 = some i ∧ i.size = 1 := by obtain ⟨i, h, _, h2, _⟩ := el3; exact ⟨i, h, h2⟩
theorem el4 : ElT Tryz.prog 4 1 (.bool false) 1 := el_of (by kernel_rfl) rfl (by decide)
theorem sz4 : ∃ i, Tryz.prog.info? 4 = some i ∧ i.size = 1 := by obtain ⟨i, h, _, h2, _⟩ := el4; exact ⟨i, h, h2⟩
theorem el23 : ElT Tryz.prog 23 1 (.slice none 0 0) 24 := el_of (by kernel_rfl) rfl (by decide)
theorem sz23 : ∃ i, Tryz.prog.info? 23 = some i ∧ i.size = 1 := by obtain ⟨i, h, _, h2, _⟩ := el23; exact ⟨i, h, h2⟩
theorem el25 : ElT Tryz.prog 25 2 (.agg #[.slice none 0 0, .slice none 0 0]) 48 := el_of (by kernel_rfl) rfl (by decide)
theorem sz25 : ∃ i, Tryz.prog.info? 25 = some i ∧ i.size = 2 := by obtain ⟨i, h, _, h2, _⟩ := el25; exact ⟨i, h, h2⟩
theorem el26 : ElT Tryz.prog 26 1 (.slice none 0 0) 24 := el_of (by kernel_rfl) rfl (by decide)
theorem sz26 : ∃ i, Tryz.prog.info? 26 = some i ∧ i.size = 1 := by obtain ⟨i, h, _, h2, _⟩ := el26; exact ⟨i, h, h2⟩
theorem el31 : ElT Tryz.prog 31 3 (.agg #[.bool false, .slice none 0 0, .slice none 0 0]) 56 := el_of (by kernel_rfl) rfl (by decide)
theorem sz31 : ∃ i, Tryz.prog.info? 31 = some i ∧ i.size = 3 := by obtain ⟨i, h, _, h2, _⟩ := el31; exact ⟨i, h, h2⟩
theorem el33 : ElT Tryz.prog 33 7 (.agg #[.int .i64 0, .bool false, .slice none 0 0, .slice none 0 0, .slice none 0 0, .slice none 0 0, .slice none 0 0]) 136 := el_of (by kernel_rfl) rfl (by decide)
theorem sz33 : ∃ i, Tryz.prog.info? 33 = some i ∧ i.size = 7 := by obtain ⟨i, h, _, h2, _⟩ := el33; exact ⟨i, h, h2⟩
theorem el40 : ElT Tryz.prog 40 1 (.slice none 0 0) 24 := el_of (by kernel_rfl) rfl (by decide)
theorem sz40 : ∃ i, Tryz.prog.info? 40 = some i ∧ i.size = 1 := by obtain ⟨i, h, _, h2, _⟩ := el40; exact ⟨i, h, h2⟩
theorem el43 : ElT Tryz.prog 43 5 (.agg #[.int .i64 0, .slice none 0 0, .slice none 0 0, .slice none 0 0, .slice none 0 0]) 104 := el_of (by kernel_rfl) rfl (by decide)
theorem sz43 : ∃ i, Tryz.prog.info? 43 = some i ∧ i.size = 5 := by obtain ⟨i, h, _, h2, _⟩ := el43; exact ⟨i, h, h2⟩
theorem el78 : ElT Tryz.prog 78 5 (.agg #[.slice none 0 0, .int .i64 0, .bool false, .slice none 0 0, .slice none 0 0]) 88 := el_of (by kernel_rfl) rfl (by decide)
theorem sz78 : ∃ i, Tryz.prog.info? 78 = some i ∧ i.size = 5 := by obtain ⟨i, h, _, h2, _⟩ := el78; exact ⟨i, h, h2⟩
theorem el82 : ElT Tryz.prog 82 1 (.pointer none) 8 := el_of (by kernel_rfl) rfl (by decide)
theorem sz82 : ∃ i, Tryz.prog.info? 82 = some i ∧ i.size = 1 := by obtain ⟨i, h, _, h2, _⟩ := el82; exact ⟨i, h, h2⟩
theorem el85 : ElT Tryz.prog 85 1 (.slice none 0 0) 24 := el_of (by kernel_rfl) rfl (by decide)
theorem sz85 : ∃ i, Tryz.prog.info? 85 = some i ∧ i.size = 1 := by obtain ⟨i, h, _, h2, _⟩ := el85; exact ⟨i, h, h2⟩
theorem el90 : ElT Tryz.prog 90 3 (.agg #[.int .i64 0, .int .i64 0, .pointer none]) 24 := el_of (by kernel_rfl) rfl (by decide)
theorem sz90 : ∃ i, Tryz.prog.info? 90 = some i ∧ i.size = 3 := by obtain ⟨i, h, _, h2, _⟩ := el90; exact ⟨i, h, h2⟩
theorem el94 : ElT Tryz.prog 94 1 (.slice none 0 0) 24 := el_of (by kernel_rfl) rfl (by decide)
theorem sz94 : ∃ i, Tryz.prog.info? 94 = some i ∧ i.size = 1 := by obtain ⟨i, h, _, h2, _⟩ := el94; exact ⟨i, h, h2⟩
theorem el95 : ElT Tryz.prog 95 1 (.slice none 0 0) 24 := el_of (by kernel_rfl) rfl (by decide)
theorem sz95 : ∃ i, Tryz.prog.info? 95 = some i ∧ i.size = 1 := by obtain ⟨i, h, _, h2, _⟩ := el95; exact ⟨i, h, h2⟩
theorem el97 : ElT Tryz.prog 97 9 (.agg #[.int .i64 0, .int .i64 0, .slice none 0 0, .slice none 0 0, .slice none 0 0, .slice none 0 0, .slice none 0 0, .slice none 0 0, .slice none 0 0]) 184 := el_of (by kernel_rfl) rfl (by decide)
theorem el121 : ElT Tryz.prog 121 1 (.int .u32 0) 4 := el_of (by kernel_rfl) rfl (by decide)
theorem sz121 : ∃ i, Tryz.prog.info? 121 = some i ∧ i.size = 1 := by obtain ⟨i, h, _, h2, _⟩ := el121; exact ⟨i, h, h2⟩
theorem el179 : ElT Tryz.prog 179 3 (.agg #[.bool false, .slice none 0 0, .slice none 0 0]) 56 := el_of (by kernel_rfl) rfl (by decide)
theorem sz179 : ∃ i, Tryz.prog.info? 179 = some i ∧ i.size = 3 := by obtain ⟨i, h, _, h2, _⟩ := el179; exact ⟨i, h, h2⟩
end Go.Eng
/- Natural numbers as lists of limbs to the base 10^9. Plain arithmetic, no program. -/
namespace Num
/-- The base of limbs. -/
def B : Nat := 1000000000
theorem B_pos : 0 < B := by decide
theorem B_eq : B = 1000000000 := rfl
/-- What a list of limbs denotes. -/
def val : List Nat → Nat
  | [] => 0
  | x :: xs => x + B * val xs
theorem val_cons (x : Nat) (xs : List Nat) : val (x :: xs) = x + B * val xs := rfl
theorem val_append (xs ys : List Nat) : val (xs ++ ys) = val xs + B ^ xs.length * val ys := by
  induction xs with
  | nil => simp [val]
  | cons x xs ih => rw [List.cons_append, val_cons, val_cons, ih, List.length_cons, Nat.pow_succ]; grind
theorem val_snoc (xs : List Nat) (y : Nat) : val (xs ++ [y]) = val xs + B ^ xs.length * y := by
  rw [val_append]; simp [val]
def Lt (l : List Nat) : Prop := ∀ x, x ∈ l → x < B
theorem Lt.nil : Lt [] := fun x h => by cases h
theorem Lt.append {a b : List Nat} (ha : Lt a) (hb : Lt b) : Lt (a ++ b) := fun x h => by
  rcases List.mem_append.1 h with h | h
  · exact ha x h
  · exact hb x h
theorem Lt.snoc {a : List Nat} {y : Nat} (ha : Lt a) (hy : y < B) : Lt (a ++ [y]) := ha.append (fun x h => by simp at h; omega)
theorem Lt.take {a : List Nat} (ha : Lt a) (k : Nat) : Lt (a.take k) := fun x h => ha x (List.mem_of_mem_take h)
theorem Lt.drop {a : List Nat} (ha : Lt a) (k : Nat) : Lt (a.drop k) := fun x h => ha x (List.mem_of_mem_drop h)
theorem Lt.get {a : List Nat} (ha : Lt a) {i y : Nat} (h : a[i]? = some y) : y < B := ha y (List.mem_of_getElem? h)
theorem val_lt {l : List Nat} (h : Lt l) : val l < B ^ l.length := by
  induction l with
  | nil => simp [val]
  | cons x l ih =>
    have h1 := h x (List.mem_cons_self ..)
    have h2 := ih (fun y hy => h y (List.mem_cons_of_mem _ hy))
    rw [val_cons, List.length_cons, Nat.pow_succ]
    have h3 : B * (val l + 1) ≤ B * B ^ l.length := Nat.mul_le_mul_left _ h2
    rw [Nat.mul_add, Nat.mul_one] at h3
    rw [Nat.mul_comm (B ^ l.length)]; omega
theorem val_take_succ {l : List Nat} {i x : Nat} (h : l[i]? = some x) : val (l.take (i + 1)) = val (l.take i) + B ^ i * x := by
  have hi : i < l.length := (List.getElem?_eq_some_iff.1 h).1
  have hx : l[i] = x := (List.getElem?_eq_some_iff.1 h).2
  rw [List.take_succ_eq_append_getElem hi, hx, val_snoc, List.length_take, Nat.min_eq_left (by omega)]
/-- No limb too great, no zero at the end. -/
structure Nrm (l : List Nat) : Prop where
  lt : Lt l
  last : ∀ x, l.getLast? = some x → x ≠ 0
theorem Nrm.nil : Nrm [] := ⟨Lt.nil, fun x h => by simp at h⟩
/-- The limbs of a number. -/
def limbsF : Nat → Nat → List Nat
  | 0, _ => []
  | f + 1, n => if n = 0 then [] else (n % B) :: limbsF f (n / B)
def limbs (n : Nat) : List Nat := limbsF n n
theorem limbsF_eq (f : Nat) : ∀ g n, n ≤ f → n ≤ g → limbsF f n = limbsF g n := by
  induction f with
  | zero => intro g n h _; obtain rfl : n = 0 := by omega
            cases g <;> simp [limbsF]
  | succ f ih =>
    intro g n h hg
    cases g with
    | zero => obtain rfl : n = 0 := by omega
              simp [limbsF]
    | succ g =>
      simp only [limbsF]
      split
      · rfl
      · rename_i hn
        have : n / B < n := Nat.div_lt_self (by omega) (by decide)
        rw [ih g (n / B) (by omega) (by omega)]
theorem limbs_zero : limbs 0 = [] := rfl
theorem limbs_pos {n : Nat} (h : 0 < n) : limbs n = (n % B) :: limbs (n / B) := by
  unfold limbs
  obtain ⟨m, rfl⟩ : ∃ m, n = m + 1 := ⟨n - 1, by omega⟩
  rw [limbsF, if_neg (by omega)]
  have : (m + 1) / B < m + 1 := Nat.div_lt_self (by omega) (by decide)
  rw [limbsF_eq m ((m + 1) / B) ((m + 1) / B) (by omega) (Nat.le_refl _)]
theorem val_limbs (n : Nat) : val (limbs n) = n := by
  induction n using Nat.strongRecOn with
  | _ n ih =>
    rcases Nat.eq_zero_or_pos n with h | h
    · subst h; rfl
    · rw [limbs_pos h, val_cons, ih (n / B) (Nat.div_lt_self h (by decide))]
      exact Nat.mod_add_div n B
theorem limbs_ne_nil {n : Nat} (h : 0 < n) : limbs n ≠ [] := by rw [limbs_pos h]; simp
theorem nrm_limbs (n : Nat) : Nrm (limbs n) := by
  induction n using Nat.strongRecOn with
  | _ n ih =>
    rcases Nat.eq_zero_or_pos n with h | h
    · subst h; exact Nrm.nil
    · have ih' := ih (n / B) (Nat.div_lt_self h (by decide))
      rw [limbs_pos h]
      refine ⟨fun x hx => ?_, fun x hx => ?_⟩
      · rcases List.mem_cons.1 hx with e | e
        · rw [e]; exact Nat.mod_lt _ B_pos
        · exact ih'.lt x e
      · rcases Nat.eq_zero_or_pos (n / B) with h0 | h0
        · rw [h0, limbs_zero] at hx
          simp at hx
          have := Nat.mod_add_div n B
          rw [h0] at this
          omega
        · cases hl : limbs (n / B) with
          | nil => exact absurd hl (limbs_ne_nil h0)
          | cons y ys =>
            rw [hl, List.getLast?_cons_cons, ← hl] at hx
            exact ih'.last x hx
theorem Nrm.pos {l : List Nat} (h : Nrm l) (hl : l ≠ []) : B ^ (l.length - 1) ≤ val l := by
  have e : l = l.dropLast ++ [l.getLast hl] := (List.dropLast_concat_getLast hl).symm
  have hx := h.last (l.getLast hl) (List.getLast?_eq_some_getLast hl)
  rw [e, val_snoc]
  simp only [List.length_append, List.length_dropLast, List.length_singleton]
  have : B ^ (l.length - 1) * 1 ≤ B ^ (l.length - 1) * l.getLast hl := Nat.mul_le_mul_left _ (by omega)
  rw [Nat.mul_one] at this
  have e2 : l.length - 1 + 1 - 1 = l.length - 1 := by omega
  rw [e2]; omega
/-- A list with its greatest limb not 0, told by the size of the number. -/
theorem nrm_of {l : List Nat} (h : Lt l) (hp : l = [] ∨ B ^ (l.length - 1) ≤ val l) : Nrm l := by
  refine ⟨h, fun x hx h0 => ?_⟩
  subst h0
  have hl : l ≠ [] := fun e => by subst e; simp at hx
  rcases hp with e | hp
  · exact hl e
  · have e : l = l.dropLast ++ [0] := by
      have := (List.dropLast_concat_getLast hl).symm
      rw [List.getLast?_eq_some_getLast hl] at hx
      simp only [Option.some.injEq] at hx
      rw [hx] at this
      exact this
    have hv : val l = val l.dropLast := by
      have := val_snoc l.dropLast 0
      rw [← e, Nat.mul_zero] at this; omega
    have hlt := val_lt (l := l.dropLast) (fun x hx => h x ((List.dropLast_sublist l).subset hx))
    rw [List.length_dropLast] at hlt
    omega
theorem limbs_val {l : List Nat} (h : Nrm l) : limbs (val l) = l := by
  induction l with
  | nil => rfl
  | cons x l ih =>
    have hx : x < B := h.lt x (List.mem_cons_self ..)
    have hp : 0 < val (x :: l) := by
      have := h.pos (by simp)
      have h2 : 0 < B ^ ((x :: l).length - 1) := Nat.pow_pos B_pos
      omega
    rw [limbs_pos hp, val_cons]
    have h1 : (x + B * val l) % B = x := by rw [Nat.add_mul_mod_self_left]; exact Nat.mod_eq_of_lt hx
    have h2 : (x + B * val l) / B = val l := by rw [Nat.add_mul_div_left _ _ B_pos, Nat.div_eq_of_lt hx, Nat.zero_add]
    rw [h1, h2]
    rw [ih ⟨fun y hy => h.lt y (List.mem_cons_of_mem _ hy), fun y hy => h.last y (by
      cases l with
      | nil => simp at hy
      | cons z zs => rw [List.getLast?_cons_cons]; exact hy)⟩]
theorem limbs_eq {l : List Nat} {n : Nat} (h : Nrm l) (hv : val l = n) : l = limbs n := by rw [← hv, limbs_val h]
theorem limbs_lt (n : Nat) : n < B ^ (limbs n).length := by
  have := val_lt (nrm_limbs n).lt
  rwa [val_limbs] at this
theorem limbs_len_le {n k : Nat} : (limbs n).length ≤ k ↔ n < B ^ k := by
  constructor
  · intro h
    exact Nat.lt_of_lt_of_le (limbs_lt n) (Nat.pow_le_pow_right B_pos h)
  · intro h
    rcases Nat.eq_zero_or_pos n with h0 | h0
    · subst h0; simp [limbs_zero]
    · have hp := (nrm_limbs n).pos (limbs_ne_nil h0)
      rw [val_limbs] at hp
      have : (limbs n).length - 1 < k := (Nat.pow_lt_pow_iff_right (by decide : 1 < B)).1 (Nat.lt_of_le_of_lt hp h)
      omega
theorem limbs_len_mono {m n : Nat} (h : m ≤ n) : (limbs m).length ≤ (limbs n).length := limbs_len_le.2 (Nat.lt_of_le_of_lt h (limbs_lt n))
theorem limbs_nil_iff {n : Nat} : limbs n = [] ↔ n = 0 := by
  constructor
  · intro h
    have := val_limbs n
    rw [h] at this; exact this.symm
  · intro h; subst h; rfl
theorem limbs_len_zero {n : Nat} : (limbs n).length = 0 ↔ n = 0 := by rw [List.length_eq_zero_iff, limbs_nil_iff]
end Num
namespace Num
/-- A list parted at a limb. -/
theorem val_part {a : List Nat} {i p : Nat} (h : a[i]? = some p) : val a = val (a.take i) + B ^ i * (p + B * val (a.drop (i + 1))) := by
  have hi := (List.getElem?_eq_some_iff.1 h).1
  have hp := (List.getElem?_eq_some_iff.1 h).2
  have e : a = a.take i ++ a.drop i := (List.take_append_drop i a).symm
  have e2 : a.drop i = p :: a.drop (i + 1) := by rw [List.drop_eq_getElem_cons hi, hp]
  conv => lhs; rw [e, e2, val_append, val_cons, List.length_take, Nat.min_eq_left (by omega)]
theorem val_lt_of {a b : List Nat} {i p q : Nat} (ha : Lt a) (h1 : a[i]? = some p) (h2 : b[i]? = some q) (hd : a.drop (i + 1) = b.drop (i + 1)) (hpq : p < q) : val a < val b := by
  rw [val_part h1, val_part h2, hd]
  have hi := (List.getElem?_eq_some_iff.1 h1).1
  have h3 := val_lt (ha.take i)
  rw [List.length_take, Nat.min_eq_left (by omega)] at h3
  have h4 : B ^ i * (p + 1 + B * val (b.drop (i + 1))) ≤ B ^ i * (q + B * val (b.drop (i + 1))) := Nat.mul_le_mul_left _ (by omega)
  rw [show p + 1 + B * val (b.drop (i + 1)) = p + B * val (b.drop (i + 1)) + 1 by omega, Nat.mul_add, Nat.mul_one] at h4
  omega
/-- The order of two natural numbers as -1, 0, 1. -/
def cmpN (x y : Nat) : Int := if x < y then -1 else if x = y then 0 else 1
theorem cmpN_lt {x y : Nat} (h : x < y) : cmpN x y = -1 := by simp [cmpN, h]
theorem cmpN_gt {x y : Nat} (h : y < x) : cmpN x y = 1 := by simp [cmpN]; omega
theorem cmpN_eq (x : Nat) : cmpN x x = 0 := by simp [cmpN]
theorem lt_of_len {x y : Nat} (h : (limbs x).length < (limbs y).length) : x < y := by
  rcases Nat.lt_or_ge x y with h1 | h1
  · exact h1
  · have := limbs_len_mono h1; omega
theorem drop_step {a b : List Nat} {k p : Nat} (hk : 0 < k) (h1 : a[k - 1]? = some p) (h2 : b[k - 1]? = some p) (hd : a.drop k = b.drop k) : a.drop (k - 1) = b.drop (k - 1) := by
  have e1 := List.drop_eq_getElem_cons (List.getElem?_eq_some_iff.1 h1).1
  have e2 := List.drop_eq_getElem_cons (List.getElem?_eq_some_iff.1 h2).1
  rw [(List.getElem?_eq_some_iff.1 h1).2, show k - 1 + 1 = k by omega] at e1
  rw [(List.getElem?_eq_some_iff.1 h2).2, show k - 1 + 1 = k by omega] at e2
  rw [e1, e2, hd]
end Num
namespace Num
theorem val_take_getD (l : List Nat) (k : Nat) : val (l.take (k + 1)) = val (l.take k) + B ^ k * (l[k]?.getD 0) := by
  cases h : l[k]? with
  | some x => simpa using val_take_succ h
  | none =>
    have : l.length ≤ k := by simpa using h
    rw [List.take_of_length_le (by omega), List.take_of_length_le this]; simp
/-- One limb of a sum with its carry. -/
theorem carry_step {o : List Nat} {k a b s t u : Nat} (ho : o.length = k) (h : val o + B ^ k * a = t) (hs : s = a + b) (hu : u = t + B ^ k * b) : val (o ++ [s % B]) + B ^ (k + 1) * (s / B) = u := by
  rw [val_snoc, ho, Nat.pow_succ]
  have h1 : B ^ k * s = B ^ k * (s % B) + B ^ k * (B * (s / B)) := by rw [← Nat.mul_add, Nat.mod_add_div]
  have h2 : B ^ k * s = B ^ k * a + B ^ k * b := by rw [hs, Nat.mul_add]
  rw [Nat.mul_assoc]; omega
theorem last_pos {o : List Nat} {n : Nat} (h : Lt o) (ho : o.length = n) (hn : n = 0 ∨ B ^ (n - 1) ≤ val o) : Nrm o := nrm_of h (by
  rcases hn with e | e
  · left; exact List.eq_nil_of_length_eq_zero (by omega)
  · right; rw [ho]; exact e)
end Num
namespace Num
theorem sub_step {o : List Nat} {k br br' s d e ta tb ta' tb' : Nat} (ho : o.length = k) (h : ta + B ^ k * br = val o + tb) (hs : s + br + e = d + B * br') (ha : ta' = ta + B ^ k * d) (hb : tb' = tb + B ^ k * e) :
    ta' + B ^ (k + 1) * br' = val (o ++ [s]) + tb' := by
  rw [val_snoc, ho, ha, hb, Nat.pow_succ, Nat.mul_assoc]
  have h1 : B ^ k * (s + br + e) = B ^ k * (d + B * br') := by rw [hs]
  simp only [Nat.mul_add] at h1
  omega
theorem val_set {l : List Nat} {t x y : Nat} (h : l[t]? = some x) : val (l.set t y) + B ^ t * x = val l + B ^ t * y := by
  induction l generalizing t with
  | nil => simp at h
  | cons z l ih =>
    cases t with
    | zero => simp at h; subst h; simp [val]; omega
    | succ t =>
      simp only [List.getElem?_cons_succ] at h
      have := ih h
      rw [List.set_cons_succ, val_cons, val_cons, Nat.pow_succ]
      have h2 : B * (val (l.set t y) + B ^ t * x) = B * (val l + B ^ t * y) := by rw [this]
      simp only [Nat.mul_add] at h2
      have e1 : B ^ t * B * x = B * (B ^ t * x) := by rw [Nat.mul_comm (B ^ t) B, Nat.mul_assoc]
      have e2 : B ^ t * B * y = B * (B ^ t * y) := by rw [Nat.mul_comm (B ^ t) B, Nat.mul_assoc]
      omega
theorem Lt.set {l : List Nat} {t y : Nat} (h : Lt l) (hy : y < B) : Lt (l.set t y) := fun x hx => by
  rcases List.mem_or_eq_of_mem_set hx with h1 | h1
  · exact h x h1
  · omega
theorem Lt.replicate (n : Nat) : Lt (List.replicate n 0) := fun x hx => by
  have := List.eq_of_mem_replicate hx
  rw [this]; exact B_pos
theorem val_replicate (n : Nat) : val (List.replicate n 0) = 0 := by
  induction n with
  | zero => rfl
  | succ n ih => rw [List.replicate_succ, val_cons, ih, Nat.mul_zero]
theorem set_take {l : List Nat} {k y : Nat} (h : k < l.length) : (l.set k y).take (k + 1) = l.take k ++ [y] := by
  rw [List.take_succ_eq_append_getElem (by simpa using h), List.getElem_set_self, List.take_set_of_le (Nat.le_refl _)]
theorem set_drop {l : List Nat} {k y : Nat} (h : k < l.length) : (l.set k y).drop k = y :: l.drop (k + 1) := by
  rw [List.drop_eq_getElem_cons (by simpa using h), List.getElem_set_self, List.drop_set_of_lt (Nat.lt_succ_self _)]
theorem drop_get {l : List Nat} {k d : Nat} (h : l[k]? = some d) : l.drop k = d :: l.drop (k + 1) := by
  rw [List.drop_eq_getElem_cons (List.getElem?_eq_some_iff.1 h).1, (List.getElem?_eq_some_iff.1 h).2]
end Num
/- How the program's data lie in memory: lists of limbs. -/
namespace Go.Eng
open Go.Proofs Num
theorem vr {n : Nat} {all : Array Oper} {s : St} {H : Heap} {md : Mode} {K : St → Heap → Prop} (k : Nat) {l : List Oper} {s1 : St} (hk : VCO Tryz.prog n all md (l.drop k) s1 H K) (h : runP tb md all (l.take k) s = some s1 := by rfl) : VCO Tryz.prog n all md l s H K := vco_run tbOk k h hk
theorem ceq_t {a b : Int} (h : a = b) : cmpI .eql a b = some true := by subst h; simp [cmpI]
theorem ceq_f {a b : Int} (h : a ≠ b) : cmpI .eql a b = some false := by simp [cmpI, h]
theorem cne_t {a b : Int} (h : a ≠ b) : cmpI .neq a b = some true := by simp [cmpI, h]
theorem cne_f {a b : Int} (h : a = b) : cmpI .neq a b = some false := by subst h; simp [cmpI]
theorem clt_t {a b : Int} (h : a < b) : cmpI .lss a b = some true := by simp [cmpI, h]
theorem clt_f {a b : Int} (h : b ≤ a) : cmpI .lss a b = some false := by simp [cmpI, h]
theorem cle_t {a b : Int} (h : a ≤ b) : cmpI .leq a b = some true := by simp [cmpI, h]
theorem cle_f {a b : Int} (h : b < a) : cmpI .leq a b = some false := by simp [cmpI, h]
theorem cgt_t {a b : Int} (h : b < a) : cmpI .gtr a b = some true := by simp [cmpI, h]
theorem cgt_f {a b : Int} (h : a ≤ b) : cmpI .gtr a b = some false := by simp [cmpI, h]
theorem cge_t {a b : Int} (h : b ≤ a) : cmpI .geq a b = some true := by simp [cmpI, h]
theorem cge_f {a b : Int} (h : a < b) : cmpI .geq a b = some false := by simp [cmpI, h]
/-- The cells of a list of limbs. -/
def U (l : List Nat) : List Value := l.map fun x => .int .u32 (Int.ofNat x)
theorem U_get {l : List Nat} {i : Nat} {x : Nat} (h : l[i]? = some x) : (U l)[i]? = some (.int .u32 (x : Int)) := by simp [U, h]
theorem U_length (l : List Nat) : (U l).length = l.length := by simp [U]
theorem U_append (a b : List Nat) : U (a ++ b) = U a ++ U b := by simp [U]
theorem U_take (l : List Nat) (k : Nat) : U (l.take k) = (U l).take k := by simp [U, List.map_take]
theorem U_one (l : List Nat) : ∀ u ∈ U l, u.oneCell' = true := fun u hu => by
  simp only [U, List.mem_map] at hu
  obtain ⟨x, _, rfl⟩ := hu
  rfl
/-- The value is a slice that reads as the list of limbs. -/
def LimV (H : Heap) (v : Value) (l : List Nat) : Prop := ∃ A c, v = .slice A l.length c ∧ l.length ≤ c ∧ Rd H A (U l)
theorem LimV.le {H H' : Heap} {v : Value} {l : List Nat} (h : LimV H v l) (hl : Heap.le H H') : LimV H' v l := by
  obtain ⟨A, c, h1, h2, h3⟩ := h
  exact ⟨A, c, h1, h2, h3.le hl⟩
/-- .. as the natural number. -/
def NatV (H : Heap) (v : Value) (x : Nat) : Prop := LimV H v (limbs x)
theorem NatV.le {H H' : Heap} {v : Value} {x : Nat} (h : NatV H v x) (hl : Heap.le H H') : NatV H' v x := LimV.le h hl
theorem Rd.take {H : Heap} {A : Option Addr} {xs : List Value} (h : Rd H A xs) (k : Nat) : Rd H A (xs.take k) := fun i v hv => by
  rw [List.getElem?_take] at hv
  split at hv
  · exact h i v hv
  · cases hv
/-- A slice of limbs of the call's own. -/
def OwnU (H : Heap) (v : Value) (l : List Nat) : Prop := Own H v 121 1 l.length (U l)
theorem OwnU.lim {H : Heap} {v : Value} {l : List Nat} (h : OwnU H v l) : LimV H v l := by
  obtain ⟨A, c, rfl⟩ := Own.form h
  refine ⟨A, c, rfl, ?_, Own.rd h⟩
  rcases h.2 with ⟨h1, h2⟩ | ⟨g, cap, h1, _, h3, _⟩
  · omega
  · cases h1; exact h3
theorem ownU_nil (H : Heap) : OwnU H (.slice none 0 0) [] := own_nil H 121 1
theorem App.ownU {H H' : Heap} {v v' : Value} {a b : List Nat} {n m : Nat} (h : App H v 121 1 (n + m) (U a ++ U b) v' H') (ha : n = a.length) (hb : m = b.length) : OwnU H' v' (a ++ b) := by
  have := h.own
  subst ha
  subst hb
  unfold OwnU
  rw [U_append, List.length_append]; exact this
/-- What a function returns that gives a natural number. -/
structure RetN (H : Heap) (x : Nat) (v : Value) (H' : Heap) : Prop where
  le : Heap.le H H'
  nat : NatV H' v x
theorem natV_of {H : Heap} {v : Value} {l : List Nat} {x : Nat} (h : LimV H v l) (hn : Nrm l) (hv : val l = x) : NatV H v x := by
  unfold NatV
  rwa [← limbs_eq hn hv]
theorem natV_zero (H : Heap) : NatV H (.slice none 0 0) 0 := natV_of (l := []) (OwnU.lim (ownU_nil H)) Nrm.nil rfl
/-- A list without the zeros at its end. -/
theorem limbs_take {l : List Nat} {k : Nat} (hlt : Lt l) (hk : k ≤ l.length) (hv : val (l.take k) = val l) (hx : k = 0 ∨ ∃ x, l[k - 1]? = some x ∧ x ≠ 0) : limbs (val l) = l.take k := by
  rw [← hv]
  refine limbs_val ⟨hlt.take k, fun y hy => ?_⟩
  rcases hx with rfl | ⟨x, h1, h2⟩
  · simp at hy
  · have : (l.take k).getLast? = some x := by
      rw [List.getLast?_eq_getElem?, List.length_take, Nat.min_eq_left hk, List.getElem?_take]
      rw [if_pos ?_]
      · exact h1
      · rcases Nat.eq_zero_or_pos k with e | e
        · subst e; simp at hy
        · omega
    rw [this] at hy
    cases hy
    exact h2
theorem slice_same (c : Nat) (A : Option Addr) (sz : Nat) : (if c = 0 then A else A.map (·.add (0 * sz))) = A := by
  split
  · rfl
  · cases A <;> simp [Addr.add]
theorem Own.ins {H : Heap} {v : Value} {e sz n : Nat} {xs : List Value} (h : Own H v e sz n xs) {g : Nat} (ent : Ent) (hg : H g = none) : Own (Eng.ins H g ent) v e sz n xs :=
  h.same fun k hk => by
    obtain ⟨en, he⟩ := h.block hk
    exact ins_other _ _ (fun e => by subst e; rw [hg] at he; cases he)
theorem OwnU.ins {H : Heap} {v : Value} {l : List Nat} (h : OwnU H v l) {g : Nat} (ent : Ent) (hg : H g = none) : OwnU (Eng.ins H g ent) v l := Own.ins h ent hg
theorem addr0 (g i : Nat) : (⟨g, 0, none⟩ : Addr).add i = ⟨g, i, none⟩ := by
  unfold Addr.add; split
  · rename_i e0; rw [e0]
  · simp
theorem rd_ins (H : Heap) (g : Nat) (xs : List Value) (sz e : Nat) (b : Bool) : Rd (ins H g ⟨xs, sz, e, b⟩) (some ⟨g, 0, none⟩) xs := fun i v hv => ⟨_, rfl, by simp [cell, addr0, ins, hv]⟩
theorem rd_u1 {H : Heap} {g e : Nat} {a : Int} {y : Nat} (h : a = y) : Rd (ins H g (whole [.int .u32 a] e)) (some ⟨g, 0, none⟩) (U [y]) := by
  subst h; exact rd_ins _ _ _ _ _ _
theorem own_make0 {H : Heap} {g e sz : Nat} {zs : List Value} {k : Int} {c : Nat} (hk : k.toNat = 0) (hc : c ≤ maxLen) : Own (ins H g ⟨madeL zs (k.toNat * sz), c * sz, e, true⟩) (.slice (some ⟨g, 0, none⟩) k.toNat c) e sz 0 [] := by
  refine ⟨by simp, .inr ⟨g, c, by rw [hk], ?_, by omega, hc⟩⟩
  rw [ins_same, hk, Nat.zero_mul]; rfl
theorem emod_cast (a b : Nat) : (a : Int) % (b : Int) = ((a % b : Nat) : Int) := rfl
/-- A block of limbs, known whole. -/
def uent (l : List Nat) (n : Nat) : Ent := ⟨U l, n * 1, 121, true⟩
theorem ins_ins (H : Heap) (g : Nat) (e e' : Ent) : ins (ins H g e) g e' = ins H g e' := by
  funext k; unfold ins; split <;> rfl
theorem U_set (l : List Nat) (k y : Nat) : (U l).set k (.int .u32 (y : Int)) = U (l.set k y) := by simp [U, List.map_set]
theorem set_uent {H : Heap} {g n k : Nat} {l : List Nat} {a : Int} {y : Nat} (h : a = y) : ins (ins H g (uent l n)) g { uent l n with xs := splice (uent l n).xs (0 + k * 1) [.int .u32 a] } = ins H g (uent (l.set k y) n) := by
  subst h
  rw [ins_ins]
  simp only [uent, splice, Nat.zero_add, Nat.mul_one, U_set]
theorem rd_uent (H : Heap) (g : Nat) (l : List Nat) (n : Nat) : Rd (ins H g (uent l n)) (some ⟨g, 0, none⟩) (U l) := rd_ins _ _ _ _ _ _
theorem made_uent {H : Heap} {g : Nat} {k : Int} {n : Nat} (hk : k.toNat = n) : ins H g ⟨madeL [.int .u32 0] (k.toNat * 1), n * 1, 121, true⟩ = ins H g (uent (List.replicate n 0) n) := by
  subst hk
  rw [Nat.mul_one, madeL_one]
  congr 1
  simp [uent, U]
theorem uent_len (l : List Nat) (n : Nat) : (uent l n).xs.length = l.length := by simp [uent, U]
theorem lim_uent (H : Heap) (g : Nat) (l : List Nat) (n m : Nat) (hm : m = l.length) (hn : m ≤ n) : LimV (ins H g (uent l n)) (.slice (some ⟨g, 0, none⟩) m n) l := ⟨_, n, by rw [hm], by omega, rd_uent H g l n⟩
end Go.Eng
/- Walks over package rational, nat.go, part 1. -/
namespace Go.Eng
open Go.Proofs Num
theorem trim_ok {H : Heap} {A : Option Addr} {c : Nat} {l : List Nat} (hlt : Lt l) (hr : Rd H A (U l)) (hc : l.length ≤ c) (hm : (l.length : Int) ≤ 35184372088832) :
  Fn Tryz.prog 207 #[.slice A l.length c] H (RetN H (val l)) := by
 refine fn_intro (args := [_]) Tryz.func207 rfl rfl Tryz.ntmps207 rfl rfl fun w0 => ?_; refine vc_keep [0] rfl ?_; refine vc_sr ?_; refine vr 1 ?_; refine vco_k [0] ?_; refine vc_sr ?_; refine vr 3 ?_; refine vco_k [0, 3] ?_; refine vc_seq ?_; refine vc_block ?_; refine vc_loop1 (fun (k : Nat) => k) (fun (k : Nat) => put (put (emp) 0 (.val (.slice A l.length c))) 3 (.val (.int .i64 (k : Int)))) (fun (k : Nat) H' => H' = H ∧ k ≤ l.length ∧ val (l.take k) = val l) l.length (⟨rfl, Nat.le_refl _, by simp⟩) (by repeat (first | exact sub_emp _ | refine sub_put rfl ?_ | refine sub_put (slot_int (by omega)) ?_)) ?_; rintro k H1 ⟨rfl, hk, hv⟩
 rcases Nat.eq_zero_or_pos k with rfl | hk0
 ·
  refine vc_seq ?_; refine vc_sr ?_; refine vr 1 ?_; refine vco_cmp false rfl rfl (by simp [cmpI]) ?_; refine vr 8 ?_; refine vco_k [0, 3, 15] ?_; refine vc_cond_f rfl ?_; refine vc_exit ?_; refine vc_sr ?_; refine vr 2 ?_; refine vco_slice (l := 0) (h := 0) tbOk rfl rfl (.inl ⟨rfl, rfl⟩) (.inr ⟨_, _, rfl, rfl⟩) (by omega) (by omega) ?_; rw [slice_same]; refine vr 1 ?_; refine vco_k [2] ?_; have e := limbs_take hlt hk hv (.inl rfl); refine vc_ret ⟨.inr rfl, _, .tmp rfl (.nil), .refl _, A, c, ?_, ?_, ?_⟩
  · rw [e]; simp; rfl
  · rw [e]; simp
  · rw [e, U_take]; exact hr.take _
 obtain ⟨x, hx⟩ : ∃ x, l[k - 1]? = some x := ⟨_, List.getElem?_eq_getElem (by omega)⟩; refine vc_seq ?_; refine vc_sr ?_; refine vr 1 ?_; refine vco_cmp true rfl rfl (by simp [cmpI]; omega) ?_; refine vr 3 ?_; refine vco_sub rfl rfl ⟨by omega, by omega⟩ ?_; refine vco_at tbOk rfl rfl rfl rfl rfl (hr) (U_get (by rw [show ((k : Int) - 1).toNat = k - 1 by omega]; exact hx)) (by omega) (by omega) fun _ => ?_; refine vr 2 ?_; refine vco_k [0, 3, 15] ?_; refine vc_cond rfl (fun hb => ?_) (fun hb => ?_)
 ·
  simp at hb
  refine vc_skip ?_; refine vc_keep [0, 3] rfl ?_; refine vc_block ?_; refine vc_region rfl ?_; refine vr 1 ?_; refine vco_sub rfl rfl ⟨by omega, by omega⟩ ?_; refine vr 1 ?_; refine vco_end ?_; exact ⟨k - 1, by omega, (by repeat (first | exact sub_emp _ | refine sub_put rfl ?_ | refine sub_put (slot_int (by omega)) ?_)), rfl, by omega, by have := val_take_succ hx; rw [show k - 1 + 1 = k by omega, hb, Nat.mul_zero, Nat.add_zero] at this; rw [← this]; exact hv⟩
 ·
  simp at hb
  refine vc_exit ?_; refine vc_keep [0, 3] rfl ?_; refine vc_sr ?_; refine vr 2 ?_; refine vco_slice tbOk rfl rfl (.inl ⟨rfl, rfl⟩) (.inr ⟨_, _, rfl, rfl⟩) (by omega) (by omega) ?_; rw [slice_same]; refine vr 1 ?_; refine vco_k [2] ?_; refine vc_ret ⟨.inr rfl, _, .tmp rfl (.nil), ?_⟩; have e := limbs_take hlt hk hv (.inr ⟨x, hx, hb⟩); refine ⟨.refl _, A, c, ?_, ?_, ?_⟩
  · rw [e, List.length_take, Nat.min_eq_left hk]; rfl
  · rw [e, List.length_take, Nat.min_eq_left hk]; omega
  · rw [e, U_take]; exact hr.take _
theorem isOne_ok {H : Heap} {A : Option Addr} {c x : Nat} (hr : Rd H A (U (limbs x))) :
  Fn Tryz.prog 208 #[.slice A (limbs x).length c] H (fun v H' => H' = H ∧ v = .bool (decide (x = 1))) := by
 refine fn_intro (args := [_]) Tryz.func208 rfl rfl Tryz.ntmps208 rfl rfl fun w0 => ?_; refine vc_keep [0] rfl ?_; refine vc_sr ?_; refine vr 1 ?_; refine vco_k [0] ?_
 by_cases hl : (limbs x).length = 1
 ·
  obtain ⟨y, hy⟩ := List.length_eq_one_iff.1 hl; refine vc_sr ?_; refine vr 2 ?_; refine vco_cmp true rfl rfl (by simp [cmpI, hl]) ?_; refine vr 2 ?_; refine vco_at tbOk rfl rfl rfl rfl rfl (hr) (U_get (show (limbs x)[0]? = some y by rw [hy]; rfl)) (by omega) (by omega) fun _ => ?_; refine vr 3 ?_; refine vco_k [2] ?_; refine vc_ret ⟨.inr rfl, _, .tmp rfl (.nil), ?_⟩; refine ⟨rfl, ?_⟩; have hv := val_limbs x; rw [hy] at hv
  simp [val] at hv
  subst hv
  show Value.bool _ = _
  congr 1
  rw [Bool.eq_iff_iff]; simp; omega
 ·
  skip
  refine vc_sr ?_; refine vr 2 ?_; refine vco_cmp false rfl rfl (by simp [cmpI]; omega) ?_; refine vr 7 ?_; refine vco_k [2] ?_; refine vc_ret ⟨.inr rfl, _, .tmp rfl (.nil), ?_⟩; refine ⟨rfl, ?_⟩; have : x ≠ 1 := fun e => hl (by subst e; rfl)
  simp [this]; rfl
end Go.Eng
/- Walks over package rational, nat.go, part 2. -/
namespace Go.Eng
open Go.Proofs Num
theorem compare_ok {H : Heap} {A A' : Option Addr} {c c' x y : Nat} (hr : Rd H A (U (limbs x))) (hr' : Rd H A' (U (limbs y))) (hm : ((limbs x).length : Int) ≤ 35184372088832) :
  Fn Tryz.prog 199 #[.slice A (limbs x).length c, .slice A' (limbs y).length c'] H (fun v H' => H' = H ∧ v = .int .i64 (cmpN x y)) := by
 refine fn_intro (args := [_, _]) Tryz.func199 rfl rfl Tryz.ntmps199 rfl rfl fun w0 => ?_; refine vc_keep [0, 1] rfl ?_; refine vc_sr ?_; refine vr 1 ?_; refine vco_k [0, 1] ?_; refine vc_seq ?_; refine vc_sr ?_; refine vr 5 ?_; refine vco_k [0, 1, 10] ?_; refine vc_cond rfl (fun hb => ?_) (fun hb => ?_)
 ·
  have hl : (limbs x).length ≠ (limbs y).length := by simp at hb; omega
  refine vc_seq ?_; refine vc_sr ?_; refine vr 5 ?_; refine vco_k [15] ?_; refine vc_cond rfl (fun hb => ?_) (fun hb => ?_)
  ·
   simp at hb
   refine vc_sr ?_; refine vr 1 ?_; refine vco_k [4] ?_; refine vc_ret ⟨.inr rfl, _, .tmp rfl (.nil), ?_⟩; exact ⟨rfl, by rw [cmpN_lt (lt_of_len hb)]; rfl⟩
  ·
   simp at hb
   refine vc_skip ?_; refine vc_keep [] rfl ?_; refine vc_sr ?_; refine vr 1 ?_; refine vco_k [4] ?_; refine vc_ret ⟨.inr rfl, _, .tmp rfl (.nil), ?_⟩; exact ⟨rfl, by rw [cmpN_gt (lt_of_len (by omega))]; rfl⟩
 ·
  have hl : (limbs x).length = (limbs y).length := by simp at hb; omega
  refine vc_skip ?_; refine vc_keep [0, 1] rfl ?_; refine vc_seq ?_; refine vc_sr ?_; refine vr 2 ?_; refine vco_sub rfl rfl ⟨by omega, by omega⟩ ?_; refine vr 1 ?_; refine vco_k [0, 1, 5] ?_; refine vc_block ?_; refine vc_loop1 (fun (k : Nat) => k) (fun (k : Nat) => put (put (put (emp) 0 (.val (.slice A (limbs x).length c))) 1 (.val (.slice A' (limbs y).length c'))) 5 (.val (.int .i64 ((k : Int) - 1)))) (fun (k : Nat) H' => H' = H ∧ k ≤ (limbs x).length ∧ (limbs x).drop k = (limbs y).drop k) (limbs x).length (⟨rfl, Nat.le_refl _, by rw [List.drop_of_length_le (Nat.le_refl _), List.drop_of_length_le (by omega)]⟩) (by repeat (first | exact sub_emp _ | refine sub_put rfl ?_ | refine sub_put (slot_int (by omega)) ?_)) ?_; rintro k H1 ⟨rfl, hk, hd⟩; refine vc_seq ?_; refine vc_sr ?_; refine vr 2 ?_; refine vco_k [0, 1, 5, 20] ?_; refine vc_cond rfl (fun hb => ?_) (fun hb => ?_)
  ·
   simp at hb
   obtain ⟨p, hp⟩ : ∃ p, (limbs x)[k - 1]? = some p := ⟨_, List.getElem?_eq_getElem (by omega)⟩; obtain ⟨q, hq⟩ : ∃ q, (limbs y)[k - 1]? = some q := ⟨_, List.getElem?_eq_getElem (by omega)⟩
   have hj : ((k : Int) - 1).toNat = k - 1 := by omega
   have hd1 : (limbs x).drop (k - 1 + 1) = (limbs y).drop (k - 1 + 1) := by rw [show k - 1 + 1 = k by omega]; exact hd
   refine vc_skip ?_; refine vc_keep [0, 1, 5] rfl ?_; refine vc_seq ?_; refine vc_block ?_; refine vc_block ?_; refine vc_sd .drawB [0, 1, 2, 3, 4, 5, 6, 7, 8, 9] follows (by kernel_rfl) ?_; refine vr 2 ?_; refine vco_at tbOk rfl rfl rfl rfl rfl (hr) (by rw [hj]; exact U_get hp) (by omega) (by omega) fun _ => ?_; refine vr 2 ?_; refine vco_at tbOk rfl rfl rfl rfl rfl (hr') (by rw [hj]; exact U_get hq) (by omega) (by omega) fun _ => ?_; refine vr 2 ?_; refine vco_k [0, 1, 5, 23] ?_; refine vc_cond rfl (fun hb => ?_) (fun hb => ?_)
   ·
    have hpq : p < q := by simpa using hb
    refine vc_sr ?_; refine vr 1 ?_; refine vco_k [4] ?_; refine vc_ret ⟨.inr rfl, _, .tmp rfl (.nil), ?_⟩; exact ⟨rfl, by rw [cmpN_lt (by have := val_lt_of (nrm_limbs x).lt hp hq hd1 hpq; rwa [val_limbs, val_limbs] at this)]; rfl⟩
   ·
    have hpq : ¬ p < q := by simpa using hb
    refine vc_sd .drawB [0, 1, 2, 3, 4, 5, 6, 7, 8, 9] follows (by kernel_rfl) ?_; refine vr 2 ?_; refine vco_at tbOk rfl rfl rfl rfl rfl (hr) (by rw [hj]; exact U_get hp) (by omega) (by omega) fun _ => ?_; refine vr 2 ?_; refine vco_at tbOk rfl rfl rfl rfl rfl (hr') (by rw [hj]; exact U_get hq) (by omega) (by omega) fun _ => ?_; refine vr 2 ?_; refine vco_k [0, 1, 5, 33] ?_; refine vc_cond rfl (fun hb => ?_) (fun hb => ?_)
    ·
     have hqp : q < p := by simpa using hb
     refine vc_sr ?_; refine vr 1 ?_; refine vco_k [4] ?_; refine vc_ret ⟨.inr rfl, _, .tmp rfl (.nil), ?_⟩; exact ⟨rfl, by rw [cmpN_gt (by have := val_lt_of (nrm_limbs y).lt hq hp hd1.symm hqp; rwa [val_limbs, val_limbs] at this)]; rfl⟩
    ·
     have hqp : ¬ q < p := by simpa using hb
     refine vc_skip ?_; refine vc_keep [0, 1, 5] rfl ?_; refine vc_region rfl ?_; refine vr 1 ?_; refine vco_sub rfl rfl ⟨by omega, by omega⟩ ?_; refine vr 1 ?_; refine vco_end ?_
     obtain rfl : p = q := by omega
     exact ⟨k - 1, by omega, (by repeat (first | exact sub_emp _ | refine sub_put rfl ?_ | refine sub_put (slot_int (by omega)) ?_)), rfl, by omega, drop_step (by omega) hp hq hd⟩
  ·
   simp at hb
   refine vc_exit ?_; refine vc_keep [] rfl ?_; refine vc_sr ?_; refine vr 1 ?_; refine vco_k [4] ?_; refine vc_ret ⟨.inr rfl, _, .tmp rfl (.nil), ?_⟩
   obtain rfl : k = 0 := by omega
   have : x = y := by rw [← val_limbs x, ← val_limbs y]; simpa using congrArg val hd
   exact ⟨rfl, by rw [this, cmpN_eq]; rfl⟩
end Go.Eng
/- Walks over package rational, nat.go, part 3. -/
namespace Go.Eng
open Go.Proofs Num
theorem word_ok {H : Heap} {A : Option Addr} {c x : Nat} (hr : Rd H A (U (limbs x))) (hm : (limbs x).length ≤ 2) :
  Fn Tryz.prog 222 #[.slice A (limbs x).length c] H (fun v H' => H' = H ∧ v = .tuple #[.int .u64 (x : Int), .bool true]) := by
 refine fn_intro (args := [_]) Tryz.func222 rfl rfl Tryz.ntmps222 rfl rfl fun w0 => ?_; refine vc_keep [0] rfl ?_; refine vc_sr ?_; refine vr 2 ?_; refine vco_k [0] ?_; refine vc_sr ?_; refine vr 1 ?_; refine vco_k [0, 4] ?_; refine vc_seq ?_; refine vc_sr ?_; refine vr 3 ?_; refine vco_k [0, 4, 8, 9] ?_; refine vc_block ?_; refine vc_loop1 (fun (k : Nat) => (limbs x).length - k) (fun (k : Nat) => put (put (put (put (emp) 0 (.val (.slice A (limbs x).length c))) 4 (.val (.int .u64 (val ((limbs x).drop ((limbs x).length - k)) : Int)))) 8 (.val (.int .i64 ((limbs x).length : Int)))) 9 (.val (.int .i64 (k : Int)))) (fun (k : Nat) H' => H' = H ∧ k ≤ (limbs x).length) 0 (⟨rfl, by omega⟩) (sub_put rfl (sub_put rfl (sub_put (slot_int (by simp [val])) (sub_put rfl (sub_emp _))))) ?_; rintro k H1 ⟨rfl, hk⟩; refine vc_sr ?_; refine vr 1 ?_; refine vco_k [0, 4, 8, 9, 10] ?_; refine vc_seq ?_; refine vc_cond rfl (fun hb => ?_) (fun hb => ?_)
 ·
  simp at hb
  obtain ⟨p, hp⟩ : ∃ p, (limbs x)[(limbs x).length - 1 - k]? = some p := ⟨_, List.getElem?_eq_getElem (by omega)⟩; have hpB := (nrm_limbs x).lt.get hp; rw [B_eq] at hpB
  have hdr : (limbs x).drop ((limbs x).length - 1 - k) = p :: (limbs x).drop ((limbs x).length - k) := by
   rw [List.drop_eq_getElem_cons (List.getElem?_eq_some_iff.1 hp).1, (List.getElem?_eq_some_iff.1 hp).2, show (limbs x).length - 1 - k + 1 = (limbs x).length - k by omega]
  have hw : val ((limbs x).drop ((limbs x).length - k)) < B := by
   have h1 := val_lt ((nrm_limbs x).lt.drop ((limbs x).length - k)); have h2 : B ^ ((limbs x).drop ((limbs x).length - k)).length ≤ B ^ 1 := Nat.pow_le_pow_right B_pos (by simp; omega); rw [Nat.pow_one] at h2; omega
  rw [B_eq] at hw
  have hj : (((limbs x).length : Int) - 1 - (k : Int)).toNat = (limbs x).length - 1 - k := by omega
  refine vc_skip ?_; refine vc_keep [0, 4, 8, 9] rfl ?_; refine vc_seq ?_; refine vc_block ?_; refine vc_sr ?_; refine vr 2 ?_; refine vco_k [0, 4, 5, 8, 9] ?_; refine vc_sr ?_; refine vr 3 ?_; refine vco_sub rfl rfl ⟨by omega, by omega⟩ ?_; refine vr 1 ?_; refine vco_sub rfl rfl ⟨by omega, by omega⟩ ?_; refine vco_at tbOk rfl rfl rfl rfl rfl (hr) (by rw [hj]; exact U_get hp) (by omega) (by omega) fun _ => ?_; refine vco_conv tbOk rfl rfl rfl ⟨by omega, by omega⟩ ?_; refine vr 1 ?_; refine vco_k [0, 4, 6, 8, 9] ?_; refine vc_seq ?_; refine vc_sr ?_; refine vr 2 ?_; refine vco_sub rfl rfl ⟨by omega, by omega⟩ ?_; refine vco_quo rfl rfl (by omega) (by omega) ⟨by omega, by omega⟩ ?_; refine vr 1 ?_; refine vco_k [0, 4, 6, 8, 9, 25] ?_; refine vc_cond rfl (fun hb => ?_) (fun hb => ?_)
  ·
   exfalso; simp at hb; omega
  ·
   skip
   refine vc_skip ?_; refine vc_keep [0, 4, 6, 8, 9] rfl ?_; refine vc_region rfl ?_; refine vr 1 ?_; refine vco_mul rfl rfl ⟨by omega, by omega⟩ ?_; refine vr 1 ?_; refine vco_add rfl rfl ⟨by omega, by omega⟩ ?_; refine vr 1 ?_; refine vco_end ?_; refine vc_keep [0, 4, 8, 9] rfl ?_; refine vc_region rfl ?_; refine vco_add rfl rfl ⟨by omega, by omega⟩ ?_; refine vr 1 ?_; refine vco_end ?_
   have hst : val ((limbs x).drop ((limbs x).length - (k + 1))) = val ((limbs x).drop ((limbs x).length - k)) * 1000000000 + p := by
    rw [show (limbs x).length - (k + 1) = (limbs x).length - 1 - k by omega, hdr, val_cons, B_eq]; omega
   exact ⟨k + 1, by omega, sub_auto, rfl, by omega⟩
 ·
  simp at hb
  refine vc_exit ?_; refine vc_keep [4] rfl ?_; refine vc_sr ?_; refine vr 3 ?_; refine vco_k [2, 3] ?_; refine vc_ret ⟨.inr rfl, _, .tmp rfl (.tmp rfl (.nil)), ?_⟩
  obtain rfl : k = (limbs x).length := by omega
  refine ⟨rfl, ?_⟩; rw [Nat.sub_self, List.drop_zero, val_limbs]; rfl
theorem fromWord_ok {H : Heap} {x : Nat} (hx : x < 18446744073709551616) :
  Fn Tryz.prog 195 #[.int .u64 (x : Int)] H (RetN H x) := by
 refine fn_intro (args := [_]) Tryz.func195 rfl rfl Tryz.ntmps195 rfl rfl fun w0 => ?_; refine vc_keep [0] rfl ?_; refine vc_sr ?_; refine vr 1 ?_; refine vco_k [0] ?_; refine vc_sr ?_; refine vr 1 ?_; refine vco_k [0, 3] ?_; refine vc_seq ?_; refine vc_block ?_; refine vc_loop3 (fun (y : Nat) (v : Value) (o : List Nat) => y) (fun (y : Nat) (v : Value) (o : List Nat) => put (put (emp) 0 (.val (.int .u64 (y : Int)))) 3 (.val (v))) (fun (y : Nat) (v : Value) (o : List Nat) H' => Heap.le H H' ∧ OwnU H' v o ∧ y ≤ x ∧ o ++ limbs y = limbs x) x (.slice none 0 0) [] (⟨.refl _, ownU_nil _, Nat.le_refl _, rfl⟩) sub_auto ?_; rintro y v o H1 ⟨hle, hown, hyx, ho⟩; obtain ⟨A, c, rfl⟩ := Own.form hown
 have hol : o.length ≤ (limbs x).length := by rw [← ho]; simp
 have hxl : (limbs x).length ≤ 3 := limbs_len_le.2 (by rw [B_eq]; omega); refine vc_seq ?_; refine vc_sr ?_; refine vr 2 ?_; refine vco_k [0, 3, 5] ?_; refine vc_cond rfl (fun hb => ?_) (fun hb => ?_)
 ·
  have hb : 0 < y := by simpa using hb
  refine vc_skip ?_; refine vc_keep [0, 3] rfl ?_; refine vc_seq ?_; refine vc_block ?_; refine vc_region rfl ?_; refine vr 2 ?_; refine vco_rem rfl rfl (by omega) (by omega) ?_; refine vco_conv tbOk rfl rfl rfl ⟨by omega, by omega⟩ ?_; refine vco_build Tryz.underlying177 el121 rfl rfl rfl rfl rfl rfl rfl ?_; intro gb hgb; refine vco_append Tryz.underlying177 el121 rfl rfl (hown.ins _ hgb) (rd_u1 (emod_cast y 1000000000)) (rfl) (U_one _) (by omega) (by omega) ?_; intro v1 H2 ha; refine vr 1 ?_; refine vco_end ?_; refine vc_keep [0, 3] rfl ?_; refine vc_region rfl ?_; refine vr 1 ?_; refine vco_quo rfl rfl (by omega) (by omega) ⟨by omega, by omega⟩ ?_; refine vr 1 ?_; refine vco_end ?_
  have hy0 : 0 < y := by omega
  rw [limbs_pos hy0] at ho; exact ⟨y / B, v1, o ++ [y % B], Nat.div_lt_self hy0 (by decide), sub_auto, (hle.trans (Heap.le_ins _ hgb)).trans ha.le, ha.ownU rfl rfl, Nat.le_trans (Nat.div_le_self _ _) hyx, by simpa using ho⟩
 ·
  have hb : y = 0 := by simpa using hb
  refine vc_exit ?_; refine vc_keep [3] rfl ?_; refine vc_sr ?_; refine vr 2 ?_; refine vco_k [2] ?_; refine vc_ret ⟨.inr rfl, _, .tmp rfl (.nil), ?_⟩; subst hb; exact ⟨hle, natV_of (hown.lim) (by rw [show o = limbs x by simpa [limbs_zero] using ho]; exact nrm_limbs x) (by rw [show o = limbs x by simpa [limbs_zero] using ho]; exact val_limbs x)⟩
end Go.Eng
/- Walks over package rational, nat.go, part 4. -/
namespace Go.Eng
open Go.Proofs Num
theorem normal_ok {H : Heap} {A : Option Addr} {c : Nat} {l : List Nat} (h32 : ∀ x, x ∈ l → x < 4294967296) (hr : Rd H A (U l)) (hm : (l.length : Int) ≤ 8796093022208) :
  Fn Tryz.prog 194 #[.slice A l.length c] H (RetN H (val l)) := by
 refine fn_intro (args := [_]) Tryz.func194 rfl rfl Tryz.ntmps194 rfl rfl fun w0 => ?_; refine vc_keep [0] rfl ?_; refine vc_sr ?_; refine vr 1 ?_; refine vco_k [0] ?_; refine vc_sr ?_; refine vr 2 ?_; refine vco_add rfl rfl ⟨by omega, by omega⟩ ?_; refine vco_make Tryz.underlying177 el121 rfl rfl rfl (by omega) (by omega) (by omega) (by omega) ?_; intro g hg; refine vr 1 ?_; refine vco_k [0, 3] ?_; refine vc_sr ?_; refine vr 1 ?_; refine vco_k [0, 3, 4] ?_; refine vc_seq ?_; refine vc_sr ?_; refine vr 3 ?_; refine vco_k [0, 3, 4, 12, 13] ?_; refine vc_block ?_; refine vc_loop4 (fun (k : Nat) (v : Value) (o : List Nat) (cr : Nat) => l.length - k) (fun (k : Nat) (v : Value) (o : List Nat) (cr : Nat) => put (put (put (put (put (emp) 0 (.val (.slice A l.length c))) 3 (.val (v))) 4 (.val (.int .u64 (cr : Int)))) 12 (.val (.int .i64 (l.length : Int)))) 13 (.val (.int .i64 (k : Int)))) (fun (k : Nat) (v : Value) (o : List Nat) (cr : Nat) H' => Heap.le H H' ∧ OwnU H' v o ∧ k ≤ l.length ∧ o.length = k ∧ Lt o ∧ cr ≤ 4 ∧ val o + B ^ k * cr = val (l.take k)) 0 _ [] 0 (⟨Heap.le_ins _ hg, own_make0 rfl (by simp only [maxLen]; omega), by omega, rfl, Lt.nil, by omega, by simp [val]⟩) sub_auto ?_; rintro k v o cr H1 ⟨hle, hown, hk, hol, hlo, hcr, hv⟩; obtain ⟨Ao, co, rfl⟩ := Own.form hown; refine vc_sr ?_; refine vr 1 ?_; refine vco_k [0, 3, 4, 12, 13, 14] ?_; refine vc_seq ?_; refine vc_cond rfl (fun hb => ?_) (fun hb => ?_)
 ·
  have hb : k < l.length := by simpa using hb
  obtain ⟨p, hp⟩ : ∃ p, l[k]? = some p := ⟨_, List.getElem?_eq_getElem hb⟩; have hp32 := h32 p (List.mem_of_getElem? hp); refine vc_skip ?_; refine vc_keep [0, 3, 4, 12, 13] rfl ?_; refine vc_seq ?_; refine vc_block ?_; refine vc_sr ?_; refine vr 2 ?_; refine vco_k [0, 3, 4, 5, 12, 13] ?_; refine vc_sr ?_; refine vr 2 ?_; refine vco_at tbOk rfl rfl rfl rfl rfl (hr.le hle) (U_get hp) (by omega) (by omega) fun _ => ?_; refine vco_conv tbOk rfl rfl rfl ⟨by omega, by omega⟩ ?_; refine vr 1 ?_; refine vco_add rfl rfl ⟨by omega, by omega⟩ ?_; refine vr 1 ?_; refine vco_k [0, 3, 6, 12, 13] ?_; refine vc_sr ?_; refine vr 2 ?_; refine vco_rem rfl rfl (by omega) (by omega) ?_; refine vco_conv tbOk rfl rfl rfl ⟨by omega, by omega⟩ ?_; refine vco_build Tryz.underlying177 el121 rfl rfl rfl rfl rfl rfl rfl ?_; intro gb hgb; refine vco_append Tryz.underlying177 el121 rfl rfl (hown.ins _ hgb) (rd_u1 (y := (p + cr) % 1000000000) rfl) (rfl) (U_one _) (by omega) (by omega) ?_; intro v1 H2 ha; refine vr 1 ?_; refine vco_k [0, 3, 6, 12, 13] ?_; refine vc_region rfl ?_; refine vr 1 ?_; refine vco_quo rfl rfl (by omega) (by omega) ⟨by omega, by omega⟩ ?_; refine vr 1 ?_; refine vco_end ?_; refine vc_keep [0, 3, 4, 12, 13] rfl ?_; refine vc_region rfl ?_; refine vco_add rfl rfl ⟨by omega, by omega⟩ ?_; refine vr 1 ?_; refine vco_end ?_; have hst := carry_step (s := p + cr) (u := val (l.take (k + 1))) hol hv (Nat.add_comm _ _) (val_take_succ hp)
  have e1 : (((p + cr) % B : Nat) : Int) = ((p : Int) + cr) % 1000000000 := rfl; exact ⟨k + 1, v1, o ++ [(p + cr) % B], (p + cr) / B, by omega, sub_auto, (hle.trans (Heap.le_ins _ hgb)).trans ha.le, ha.ownU rfl rfl, by omega, by simp [hol], hlo.snoc (Nat.mod_lt _ B_pos), by rw [B_eq]; omega, hst⟩
 ·
  have hb : l.length ≤ k := by simpa using hb
  obtain rfl : k = l.length := by omega
  rw [List.take_length] at hv; refine vc_exit ?_; refine vc_keep [3, 4] rfl ?_; refine vc_cut2 (fun (v : Value) (o : List Nat) => put (emp) 3 (.val (v))) (fun (v : Value) (o : List Nat) H' => Heap.le H H' ∧ OwnU H' v o ∧ o.length ≤ l.length + 1 ∧ Lt o ∧ val o = val l) ?_ ?_
  ·
   refine vc_sr ?_; refine vr 2 ?_; refine vco_k [3, 4, 33] ?_; refine vc_cond rfl (fun hb => ?_) (fun hb => ?_)
   ·
    have hb : 0 < cr := by simpa using hb
    refine vc_region rfl ?_; refine vr 2 ?_; refine vco_conv tbOk rfl rfl rfl ⟨by omega, by omega⟩ ?_; refine vco_build Tryz.underlying177 el121 rfl rfl rfl rfl rfl rfl rfl ?_; intro gb hgb; refine vco_append Tryz.underlying177 el121 rfl rfl (hown.ins _ hgb) (rd_u1 (y := cr) rfl) (rfl) (U_one _) (by omega) (by omega) ?_; intro v1 H2 ha; refine vr 1 ?_; refine vco_end ?_; exact ⟨v1, o ++ [cr], (by repeat (first | exact sub_emp _ | refine sub_put rfl ?_ | refine sub_put (slot_int (by omega)) ?_)), (hle.trans (Heap.le_ins _ hgb)).trans ha.le, ha.ownU rfl rfl, by simp; omega, hlo.snoc (by rw [B_eq]; omega), by rw [val_snoc, hol]; exact hv⟩
   ·
    have hb : cr = 0 := by simpa using hb
    refine vc_skip ?_; exact ⟨_, o, (by repeat (first | exact sub_emp _ | refine sub_put rfl ?_ | refine sub_put (slot_int (by omega)) ?_)), hle, hown, by omega, hlo, by rw [hb, Nat.mul_zero] at hv; omega⟩
  ·
   rintro v o H3 ⟨hle, hown, hol, hlo, hv⟩; obtain ⟨Ao, co, hvo, hco, hro⟩ := hown.lim; subst hvo; refine vc_sr ?_; refine vr 1 ?_; refine vco_call rfl rfl (trim_ok hlo hro hco (by omega)) ?_; intro v1 H4 hp; refine vr 1 ?_; refine vco_k [2] ?_; refine vc_ret ⟨.inr rfl, _, .tmp rfl (.nil), ?_⟩; exact ⟨hle.trans hp.le, by have := hp.nat; rwa [hv] at this⟩
end Go.Eng
/- Walks over package rational, nat.go, part 5. -/
namespace Go.Eng
open Go.Proofs Num
theorem nadd_ok {H : Heap} {u v : Value} {x y : Nat} (hx : NatV H u x) (hy : NatV H v y) (hm : ((limbs x).length : Int) ≤ 8796093022208) (hm' : ((limbs y).length : Int) ≤ 8796093022208) :
  Fn Tryz.prog 205 #[u, v] H (RetN H (x + y)) := by
 obtain ⟨A, c, rfl, hc, hr⟩ := hx
 obtain ⟨A', c', rfl, hc', hr'⟩ := hy; refine fn_intro (args := [_, _]) Tryz.func205 rfl rfl Tryz.ntmps205 rfl rfl fun w0 => ?_; refine vc_keep [0, 1] rfl ?_; refine vc_sr ?_; refine vr 1 ?_; refine vco_k [0, 1] ?_; refine vc_cut4 (fun (u : Value) (w : Value) (p : Nat) (q : Nat) => put (put (emp) 0 (.val (u))) 1 (.val (w))) (fun (u : Value) (w : Value) (p : Nat) (q : Nat) H' => H' = H ∧ NatV H u p ∧ NatV H w q ∧ p + q = x + y ∧ (limbs q).length ≤ (limbs p).length ∧ ((limbs p).length : Int) ≤ 8796093022208) ?_ ?_
 ·
  refine vc_sr ?_; refine vr 5 ?_; refine vco_k [0, 1, 13] ?_; refine vc_cond rfl (fun hb => ?_) (fun hb => ?_)
  ·
   simp at hb
   refine vc_region rfl ?_; refine vr 4 ?_; refine vco_end ?_; exact ⟨_, _, y, x, (by repeat (first | exact sub_emp _ | refine sub_put rfl ?_ | refine sub_put (slot_int (by omega)) ?_)), rfl, ⟨A', c', rfl, hc', hr'⟩, ⟨A, c, rfl, hc, hr⟩, by omega, by omega, by omega⟩
  ·
   simp at hb
   refine vc_skip ?_; exact ⟨_, _, x, y, (by repeat (first | exact sub_emp _ | refine sub_put rfl ?_ | refine sub_put (slot_int (by omega)) ?_)), rfl, ⟨A, c, rfl, hc, hr⟩, ⟨A', c', rfl, hc', hr'⟩, by omega, by omega, by omega⟩
 ·
  rintro u w p q H3 ⟨rfl, hp, hq, hpq, hl, hm⟩; clear hr hr' hc hc'; obtain ⟨A, c, rfl, hc, hr⟩ := hp; obtain ⟨A', c', rfl, hc', hr'⟩ := hq; have hla := (nrm_limbs p).lt; have hlb := (nrm_limbs q).lt; refine vc_sr ?_; refine vr 2 ?_; refine vco_add rfl rfl ⟨by omega, by omega⟩ ?_; refine vco_make Tryz.underlying177 el121 rfl rfl rfl (by omega) (by omega) (by omega) (by omega) ?_; intro g hg; refine vr 1 ?_; refine vco_k [0, 1, 5] ?_; refine vc_sr ?_; refine vr 1 ?_; refine vco_k [0, 1, 5, 6] ?_; refine vc_seq ?_; refine vc_sr ?_; refine vr 3 ?_; refine vco_k [0, 1, 5, 6, 21, 22] ?_; refine vc_block ?_; refine vc_loop4 (fun (k : Nat) (v : Value) (o : List Nat) (cr : Nat) => (limbs p).length - k) (fun (k : Nat) (v : Value) (o : List Nat) (cr : Nat) => put (put (put (put (put (put (emp) 0 (.val (.slice A (limbs p).length c))) 1 (.val (.slice A' (limbs q).length c'))) 5 (.val (v))) 6 (.val (.int .u32 (cr : Int)))) 21 (.val (.int .i64 ((limbs p).length : Int)))) 22 (.val (.int .i64 (k : Int)))) (fun (k : Nat) (v : Value) (o : List Nat) (cr : Nat) H' => Heap.le H3 H' ∧ OwnU H' v o ∧ k ≤ (limbs p).length ∧ o.length = k ∧ Lt o ∧ cr ≤ 1 ∧ val o + B ^ k * cr = val ((limbs p).take k) + val ((limbs q).take k)) 0 _ [] 0 (⟨Heap.le_ins _ hg, own_make0 rfl (by simp only [maxLen]; omega), by omega, rfl, Lt.nil, by omega, by simp [val]⟩) sub_auto ?_; rintro k v o cr H1 ⟨hle, hown, hk, hol, hlo, hcr, hv⟩; obtain ⟨Ao, co, rfl⟩ := Own.form hown
  refine vc_sr ?_; refine vr 1 ?_; refine vco_k [0, 1, 5, 6, 21, 22, 23] ?_; refine vc_seq ?_; refine vc_cond rfl (fun hb => ?_) (fun hb => ?_)
  ·
   have hb : k < (limbs p).length := by simpa using hb
   obtain ⟨d, hd⟩ : ∃ d, (limbs p)[k]? = some d := ⟨_, List.getElem?_eq_getElem hb⟩; have hdB := hla.get hd; rw [B_eq] at hdB; obtain ⟨e, he⟩ : ∃ e, e = ((limbs q)[k]?).getD 0 := ⟨_, rfl⟩
   have heB : e < 1000000000 := by
    cases hq : (limbs q)[k]? with
    | none => rw [hq] at he; simp at he; omega
    | some z => rw [hq] at he; simp at he; have := hlb.get hq; rw [B_eq] at this; omega
   refine vc_skip ?_; refine vc_keep [0, 1, 5, 6, 21, 22] rfl ?_; refine vc_seq ?_; refine vc_block ?_; refine vc_sr ?_; refine vr 2 ?_; refine vco_k [0, 1, 5, 6, 7, 21, 22] ?_; refine vc_sr ?_; refine vr 2 ?_; refine vco_at tbOk rfl rfl rfl rfl rfl (hr.le hle) (U_get hd) (by omega) (by omega) fun _ => ?_; refine vr 1 ?_; refine vco_add rfl rfl ⟨by omega, by omega⟩ ?_; refine vr 1 ?_; refine vco_k [0, 1, 5, 7, 8, 21, 22] ?_; refine vc_cut1 (fun (sv : Nat) => put (put (put (put (put (put (emp) 0 (.val (.slice A (limbs p).length c))) 1 (.val (.slice A' (limbs q).length c'))) 5 (.val (.slice Ao o.length co))) 8 (.val (.int .u32 (sv : Int)))) 21 (.val (.int .i64 ((limbs p).length : Int)))) 22 (.val (.int .i64 (k : Int)))) (fun (sv : Nat) H' => H' = H1 ∧ sv = d + cr + e) ?_ ?_
   ·
    refine vc_sr ?_; refine vr 4 ?_; refine vco_k [0, 1, 5, 7, 8, 21, 22, 34] ?_; refine vc_cond rfl (fun hb => ?_) (fun hb => ?_)
    ·
     have hb : k < (limbs q).length := by simpa using hb
     have hz : (limbs q)[k]? = some e := by rw [List.getElem?_eq_getElem hb] at he ⊢; simp at he; rw [he]
     refine vc_region rfl ?_; refine vr 3 ?_; refine vco_at tbOk rfl rfl rfl rfl rfl (hr'.le hle) (U_get hz) (by omega) (by omega) fun _ => ?_; refine vco_add rfl rfl ⟨by omega, by omega⟩ ?_; refine vr 1 ?_; refine vco_end ?_; exact ⟨d + cr + e, (by repeat (first | exact sub_emp _ | refine sub_put rfl ?_ | refine sub_put (slot_int (by omega)) ?_)), rfl, rfl⟩
    ·
     have hb : (limbs q).length ≤ k := by simpa using hb
     obtain rfl : e = 0 := by rw [he, List.getElem?_eq_none hb]; rfl
     refine vc_skip ?_; exact ⟨d + cr, (by repeat (first | exact sub_emp _ | refine sub_put rfl ?_ | refine sub_put (slot_int (by omega)) ?_)), rfl, rfl⟩
   ·
    rintro sv H4 ⟨rfl, hsv⟩; refine vc_sr ?_; refine vr 1 ?_; refine vco_quo rfl rfl (by omega) (by omega) ⟨by omega, by omega⟩ ?_; refine vr 1 ?_; refine vco_k [0, 1, 5, 6, 8, 21, 22] ?_; refine vc_region rfl ?_; refine vr 2 ?_; refine vco_rem rfl rfl (by omega) (by omega) ?_; refine vco_build Tryz.underlying177 el121 rfl rfl rfl rfl rfl rfl rfl ?_; intro gb hgb; refine vco_append Tryz.underlying177 el121 rfl rfl (hown.ins _ hgb) (rd_u1 (y := sv % 1000000000) rfl) (rfl) (U_one _) (by omega) (by omega) ?_; intro v1 H2 ha; refine vr 1 ?_; refine vco_end ?_; refine vc_keep [0, 1, 5, 6, 21, 22] rfl ?_; refine vc_region rfl ?_; refine vco_add rfl rfl ⟨by omega, by omega⟩ ?_; refine vr 1 ?_; refine vco_end ?_; have hst := carry_step (s := cr + (d + e)) (u := val ((limbs p).take (k + 1)) + val ((limbs q).take (k + 1))) hol hv rfl (by rw [val_take_succ hd, val_take_getD, ← he, Nat.mul_add]; omega)
    obtain rfl : sv = cr + (d + e) := by omega
    exact ⟨k + 1, v1, o ++ [(cr + (d + e)) % B], (cr + (d + e)) / B, by omega, sub_auto, (hle.trans (Heap.le_ins _ hgb)).trans ha.le, ha.ownU rfl rfl, by omega, by simp [hol], hlo.snoc (Nat.mod_lt _ B_pos), by rw [B_eq]; omega, hst⟩
  ·
   have hb : (limbs p).length ≤ k := by simpa using hb
   obtain rfl : k = (limbs p).length := by omega
   rw [List.take_length, List.take_of_length_le hl, val_limbs, val_limbs] at hv; refine vc_exit ?_; refine vc_keep [5, 6] rfl ?_; refine vc_seq ?_; refine vc_sr ?_; refine vr 2 ?_; refine vco_k [5, 6, 50] ?_; refine vc_cond rfl (fun hb => ?_) (fun hb => ?_)
   ·
    have hb : 0 < cr := by simpa using hb
    refine vc_region rfl ?_; refine vr 2 ?_; refine vco_build Tryz.underlying177 el121 rfl rfl rfl rfl rfl rfl rfl ?_; intro gb hgb; refine vco_append Tryz.underlying177 el121 rfl rfl (hown.ins _ hgb) (rd_u1 (y := cr) rfl) (rfl) (U_one _) (by omega) (by omega) ?_; intro v1 H2 ha; refine vr 1 ?_; refine vco_end ?_; refine vc_keep [5] rfl ?_; refine vc_sr ?_; refine vr 2 ?_; refine vco_k [4] ?_; refine vc_ret ⟨.inr rfl, _, .tmp rfl (.nil), ?_⟩
    have hvo : val (o ++ [cr]) = x + y := by rw [val_snoc, hol, hv]; exact hpq
    exact ⟨(hle.trans (Heap.le_ins _ hgb)).trans ha.le, natV_of (ha.ownU (a := o) (b := [cr]) rfl rfl).lim ⟨hlo.snoc (by rw [B_eq]; omega), fun z hz => by simp at hz; omega⟩ hvo⟩
   ·
    have hb : cr = 0 := by simpa using hb
    refine vc_skip ?_; refine vc_keep [5] rfl ?_; refine vc_sr ?_; refine vr 2 ?_; refine vco_k [4] ?_; refine vc_ret ⟨.inr rfl, _, .tmp rfl (.nil), ?_⟩; rw [hb, Nat.mul_zero, Nat.add_zero] at hv; refine ⟨hle, natV_of hown.lim (last_pos hlo hol ?_) (by rw [hv]; exact hpq)⟩
    rcases Nat.eq_zero_or_pos (limbs p).length with h0 | h0
    · exact .inl h0
    ·
     have := (nrm_limbs p).pos (by intro e0; rw [e0] at h0; simp at h0); rw [val_limbs] at this; exact .inr (by rw [hv]; omega)
end Go.Eng
/- Walks over package rational, nat.go, part 6. -/
namespace Go.Eng
open Go.Proofs Num
theorem nsub_ok {H : Heap} {u v : Value} {x y : Nat} (hx : NatV H u x) (hy : NatV H v y) (hyx : y ≤ x) (hm : ((limbs x).length : Int) ≤ 8796093022208) :
  Fn Tryz.prog 206 #[u, v] H (RetN H (x - y)) := by
 obtain ⟨A, c, rfl, hc, hr⟩ := hx
 obtain ⟨A', c', rfl, hc', hr'⟩ := hy
 have hla := (nrm_limbs x).lt
 have hlb := (nrm_limbs y).lt
 have hl := limbs_len_mono hyx; refine fn_intro (args := [_, _]) Tryz.func206 rfl rfl Tryz.ntmps206 rfl rfl fun w0 => ?_; refine vc_keep [0, 1] rfl ?_; refine vc_sr ?_; refine vr 1 ?_; refine vco_k [0, 1] ?_; refine vc_sr ?_; refine vr 2 ?_; refine vco_make Tryz.underlying177 el121 rfl rfl rfl (by omega) (by omega) (by omega) (by omega) ?_; intro g hg; refine vr 1 ?_; refine vco_k [0, 1, 5] ?_; refine vc_sr ?_; refine vr 1 ?_; refine vco_k [0, 1, 5, 6] ?_; refine vc_seq ?_; refine vc_sr ?_; refine vr 3 ?_; refine vco_k [0, 1, 5, 6, 13, 14] ?_; refine vc_block ?_; refine vc_loop4 (fun (k : Nat) (v : Value) (o : List Nat) (br : Nat) => (limbs x).length - k) (fun (k : Nat) (v : Value) (o : List Nat) (br : Nat) => put (put (put (put (put (put (emp) 0 (.val (.slice A (limbs x).length c))) 1 (.val (.slice A' (limbs y).length c'))) 5 (.val (v))) 6 (.val (.int .i64 (br : Int)))) 13 (.val (.int .i64 ((limbs x).length : Int)))) 14 (.val (.int .i64 (k : Int)))) (fun (k : Nat) (v : Value) (o : List Nat) (br : Nat) H' => Heap.le H H' ∧ OwnU H' v o ∧ k ≤ (limbs x).length ∧ o.length = k ∧ Lt o ∧ br ≤ 1 ∧ val ((limbs x).take k) + B ^ k * br = val o + val ((limbs y).take k)) 0 _ [] 0 (⟨Heap.le_ins _ hg, own_make0 rfl (by simp only [maxLen]; omega), by omega, rfl, Lt.nil, by omega, by simp [val]⟩) sub_auto ?_; rintro k v o br H1 ⟨hle, hown, hk, hol, hlo, hbr, hv⟩; obtain ⟨Ao, co, rfl⟩ := Own.form hown; refine vc_sr ?_; refine vr 1 ?_
 refine vco_k [0, 1, 5, 6, 13, 14, 15] ?_; refine vc_seq ?_; refine vc_cond rfl (fun hb => ?_) (fun hb => ?_)
 ·
  have hb : k < (limbs x).length := by simpa using hb
  obtain ⟨d, hd⟩ : ∃ d, (limbs x)[k]? = some d := ⟨_, List.getElem?_eq_getElem hb⟩; have hdB := hla.get hd; rw [B_eq] at hdB; obtain ⟨e, he⟩ : ∃ e, e = ((limbs y)[k]?).getD 0 := ⟨_, rfl⟩
  have heB : e < 1000000000 := by
   cases hq : (limbs y)[k]? with
   | none => rw [hq] at he; simp at he; omega
   | some z => rw [hq] at he; simp at he; have := hlb.get hq; rw [B_eq] at this; omega
  refine vc_skip ?_; refine vc_keep [0, 1, 5, 6, 13, 14] rfl ?_; refine vc_seq ?_; refine vc_block ?_; refine vc_sr ?_; refine vr 2 ?_; refine vco_k [0, 1, 5, 6, 7, 13, 14] ?_; refine vc_sr ?_; refine vr 2 ?_; refine vco_at tbOk rfl rfl rfl rfl rfl (hr.le hle) (U_get hd) (by omega) (by omega) fun _ => ?_; refine vco_conv tbOk rfl rfl rfl ⟨by omega, by omega⟩ ?_; refine vr 1 ?_; refine vco_sub rfl rfl ⟨by omega, by omega⟩ ?_; refine vr 1 ?_; refine vco_k [0, 1, 5, 7, 8, 13, 14] ?_; refine vc_cut1 (fun (sv : Int) => put (put (put (put (put (put (emp) 0 (.val (.slice A (limbs x).length c))) 1 (.val (.slice A' (limbs y).length c'))) 5 (.val (.slice Ao o.length co))) 8 (.val (.int .i64 sv))) 13 (.val (.int .i64 ((limbs x).length : Int)))) 14 (.val (.int .i64 (k : Int)))) (fun (sv : Int) H' => H' = H1 ∧ sv = (d : Int) - br - e) ?_ ?_
  ·
   refine vc_sr ?_; refine vr 4 ?_; refine vco_k [0, 1, 5, 7, 8, 13, 14, 27] ?_; refine vc_cond rfl (fun hb => ?_) (fun hb => ?_)
   ·
    have hb : k < (limbs y).length := by simpa using hb
    have hz : (limbs y)[k]? = some e := by rw [List.getElem?_eq_getElem hb] at he ⊢; simp at he; rw [he]
    refine vc_region rfl ?_; refine vr 3 ?_; refine vco_at tbOk rfl rfl rfl rfl rfl (hr'.le hle) (U_get hz) (by omega) (by omega) fun _ => ?_; refine vco_conv tbOk rfl rfl rfl ⟨by omega, by omega⟩ ?_; refine vco_sub rfl rfl ⟨by omega, by omega⟩ ?_; refine vr 1 ?_; refine vco_end ?_; exact ⟨(d : Int) - br - e, (by repeat (first | exact sub_emp _ | refine sub_put rfl ?_ | refine sub_put (slot_int (by omega)) ?_)), rfl, rfl⟩
   ·
    have hb : (limbs y).length ≤ k := by simpa using hb
    have he0 : e = 0 := by rw [he, List.getElem?_eq_none hb]; rfl
    refine vc_skip ?_; exact ⟨(d : Int) - br, (by repeat (first | exact sub_emp _ | refine sub_put rfl ?_ | refine sub_put (slot_int (by omega)) ?_)), rfl, by omega⟩
  ·
   rintro sv H4 ⟨rfl, hsv⟩; refine vc_sr ?_; refine vr 1 ?_; refine vco_k [0, 1, 5, 6, 8, 13, 14] ?_; refine vc_seq ?_; refine vc_sr ?_; refine vr 2 ?_; refine vco_k [0, 1, 5, 6, 8, 13, 14, 36] ?_; refine vc_cond rfl (fun hb => ?_) (fun hb => ?_)
   ·
    have hb : sv < 0 := by simpa using hb
    refine vc_sr ?_; refine vr 1 ?_; refine vco_add rfl rfl ⟨by omega, by omega⟩ ?_; refine vr 1 ?_; refine vco_k [0, 1, 5, 8, 13, 14] ?_; refine vc_region rfl ?_; refine vr 1 ?_; refine vco_end ?_; refine vc_keep [0, 1, 5, 6, 8, 13, 14] rfl ?_; refine vc_region rfl ?_; refine vr 2 ?_; refine vco_conv tbOk rfl rfl rfl ⟨by omega, by omega⟩ ?_; refine vco_build Tryz.underlying177 el121 rfl rfl rfl rfl rfl rfl rfl ?_; intro gb hgb; refine vco_append Tryz.underlying177 el121 rfl rfl (hown.ins _ hgb) (rd_u1 (y := if sv < 0 then d + 1000000000 - br - e else d - br - e) (by split <;> omega)) (rfl) (U_one _) (by omega) (by omega) ?_; intro v1 H2 ha
    (first|rw [if_pos hb] at ha|rw [if_neg (by omega)] at ha)
    refine vr 1 ?_; refine vco_end ?_; refine vc_keep [0, 1, 5, 6, 13, 14] rfl ?_; refine vc_region rfl ?_; refine vco_add rfl rfl ⟨by omega, by omega⟩ ?_; refine vr 1 ?_; refine vco_end ?_; have hst := sub_step (s := d + 1000000000 - br - e) (br' := 1) (d := d) (e := e) hol hv (by rw [B_eq]; omega) (val_take_succ hd) (show val ((limbs y).take (k + 1)) = val ((limbs y).take k) + B ^ k * e by rw [val_take_getD, ← he]); exact ⟨k + 1, v1, o ++ [d + 1000000000 - br - e], 1, by omega, sub_auto, (hle.trans (Heap.le_ins _ hgb)).trans ha.le, ha.ownU rfl rfl, by omega, by simp [hol], hlo.snoc (by rw [B_eq]; omega), by omega, hst⟩
   ·
    have hb : 0 ≤ sv := by simpa using hb
    refine vc_skip ?_; refine vc_keep [0, 1, 5, 6, 8, 13, 14] rfl ?_; refine vc_region rfl ?_; refine vr 2 ?_; refine vco_conv tbOk rfl rfl rfl ⟨by omega, by omega⟩ ?_; refine vco_build Tryz.underlying177 el121 rfl rfl rfl rfl rfl rfl rfl ?_; intro gb hgb; refine vco_append Tryz.underlying177 el121 rfl rfl (hown.ins _ hgb) (rd_u1 (y := if sv < 0 then d + 1000000000 - br - e else d - br - e) (by split <;> omega)) (rfl) (U_one _) (by omega) (by omega) ?_; intro v1 H2 ha
    (first|rw [if_pos hb] at ha|rw [if_neg (by omega)] at ha)
    refine vr 1 ?_; refine vco_end ?_; refine vc_keep [0, 1, 5, 6, 13, 14] rfl ?_; refine vc_region rfl ?_; refine vco_add rfl rfl ⟨by omega, by omega⟩ ?_; refine vr 1 ?_; refine vco_end ?_; have hst := sub_step (s := d - br - e) (br' := 0) (d := d) (e := e) hol hv (by omega) (val_take_succ hd) (show val ((limbs y).take (k + 1)) = val ((limbs y).take k) + B ^ k * e by rw [val_take_getD, ← he]); exact ⟨k + 1, v1, o ++ [d - br - e], 0, by omega, sub_auto, (hle.trans (Heap.le_ins _ hgb)).trans ha.le, ha.ownU rfl rfl, by omega, by simp [hol], hlo.snoc (by rw [B_eq]; omega), by omega, hst⟩
 ·
  have hb : (limbs x).length ≤ k := by simpa using hb
  obtain rfl : k = (limbs x).length := by omega
  rw [List.take_length, List.take_of_length_le hl, val_limbs, val_limbs] at hv; have hvo := val_lt hlo; rw [hol] at hvo
  have hbr0 : br = 0 := by
   rcases Nat.eq_zero_or_pos br with h | h
   · exact h
   ·
    obtain rfl : br = 1 := by omega
    omega
  obtain ⟨Ao', co', hvo', hco, hro⟩ := hown.lim
  cases hvo'
  refine vc_exit ?_; refine vc_keep [5] rfl ?_; refine vc_sr ?_; refine vr 1 ?_; refine vco_call rfl rfl (trim_ok hlo hro hco (by omega)) ?_; intro v1 H4 hp; refine vr 1 ?_; refine vco_k [4] ?_; refine vc_ret ⟨.inr rfl, _, .tmp rfl (.nil), ?_⟩; exact ⟨hle.trans hp.le, by have := hp.nat; rwa [show val o = x - y by rw [hbr0] at hv; omega] at this⟩
end Go.Eng
/- Walks over package rational, nat.go, part 7. -/
namespace Go.Eng
open Go.Proofs Num
theorem made_uent' (H : Heap) (g n : Nat) : ins H g ⟨madeL [.int .u32 0] (n * 1), n * 1, 121, true⟩ = ins H g (uent (List.replicate n 0) n) := made_uent (k := n) rfl
theorem take_set_succ {l : List Nat} {k y : Nat} (h : k < l.length) : (l.set k y).take (k + 1) = l.take k ++ [y] := set_take h
theorem div_of {q m r x : Nat} (h : q * m + r = x) (hr : r < m) : x / m = q ∧ x % m = r := by
  subst h
  refine ⟨?_, ?_⟩
  · rw [Nat.mul_comm, Nat.mul_add_div (by omega), Nat.div_eq_of_lt hr, Nat.add_zero]
  · rw [Nat.mul_comm, Nat.mul_add_mod, Nat.mod_eq_of_lt hr]
/-- What a function returns that makes a block of limbs. -/
def RetL (H : Heap) (n x : Nat) (v : Value) (H' : Heap) : Prop := ∃ g l, H g = none ∧ v = .slice (some ⟨g, 0, none⟩) n n ∧ H' = ins H g (uent l n) ∧ l.length = n ∧ Lt l ∧ val l = x
theorem trim_v {H : Heap} {v : Value} {l : List Nat} (h : LimV H v l) (hlt : Lt l) (hm : (l.length : Int) ≤ 35184372088832) : Fn Tryz.prog 207 #[v] H (RetN H (val l)) := by
  obtain ⟨A, c, rfl, hc, hr⟩ := h
  exact trim_ok hlt hr hc hm
theorem multiplySmall_ok {H : Heap} {u : Value} {l : List Nat} {m : Nat} (hu : LimV H u l) (hl : Lt l) (hm : m < 1000000000) (hs : (l.length : Int) ≤ 8796093022208) :
  Fn Tryz.prog 224 #[u, .int .u64 (m : Int)] H (RetL H (l.length + 1) (val l * m)) := by
 obtain ⟨A, c, rfl, hc, hr⟩ := hu; refine fn_intro (args := [_, _]) Tryz.func224 rfl rfl Tryz.ntmps224 rfl rfl fun w0 => ?_; refine vc_keep [0, 1] rfl ?_; refine vc_sr ?_; refine vr 1 ?_; refine vco_k [0, 1] ?_; refine vc_sr ?_; refine vr 2 ?_; refine vco_add rfl rfl ⟨by omega, by omega⟩ ?_; refine vco_make Tryz.underlying177 el121 rfl rfl rfl (by omega) (by omega) (by omega) (by omega) ?_; intro g hg; rw [show ((l.length : Int) + 1).toNat = l.length + 1 from by omega, made_uent']; have hrg := fun e => hr.le (Heap.le_ins (g := g) e hg); refine vr 1 ?_; refine vco_k [0, 1, 5] ?_; refine vc_sr ?_; refine vr 1 ?_; refine vco_k [0, 1, 5, 6] ?_; refine vc_seq ?_; refine vc_sr ?_; refine vr 3 ?_; refine vco_k [0, 1, 5, 6, 14, 15] ?_; refine vc_block ?_; refine vc_loop3 (fun (k : Nat) (o : List Nat) (cr : Nat) => l.length - k) (fun (k : Nat) (o : List Nat) (cr : Nat) => put (put (put (put (put (put (emp) 0 (.val (.slice A l.length c))) 1 (.val (.int .u64 (m : Int)))) 5 (.val (.slice (some ⟨g, 0, none⟩) (l.length + 1) (l.length + 1)))) 6 (.val (.int .u64 (cr : Int)))) 14 (.val (.int .i64 (l.length : Int)))) 15 (.val (.int .i64 (k : Int)))) (fun (k : Nat) (o : List Nat) (cr : Nat) H' => H' = ins H g (uent o (l.length + 1)) ∧ k ≤ l.length ∧ o.length = l.length + 1 ∧ Lt o ∧ cr < 1000000000 ∧ val (o.take k) + B ^ k * cr = val (l.take k) * m) 0 _ 0 (⟨rfl, by omega, by simp, Lt.replicate _, by omega, by simp [val]⟩) sub_auto ?_
 rintro k o cr H1 ⟨rfl, hk, hol, hlo, hcr, hv⟩; refine vc_sr ?_; refine vr 1 ?_; refine vco_k [0, 1, 5, 6, 14, 15, 16] ?_; refine vc_seq ?_; refine vc_cond rfl (fun hb => ?_) (fun hb => ?_)
 ·
  have hb : k < l.length := by simpa using hb
  obtain ⟨d, hd⟩ : ∃ d, l[k]? = some d := ⟨_, List.getElem?_eq_getElem hb⟩; have hdB := hl.get hd; rw [B_eq] at hdB; have hdm : d * m ≤ 999999999 * 999999999 := Nat.mul_le_mul (by omega) (by omega)
  have hdm' : (d : Int) * (m : Int) = ((d * m : Nat) : Int) := by simp
  obtain ⟨dm, hdm2⟩ : ∃ dm, dm = d * m := ⟨_, rfl⟩; refine vc_skip ?_; refine vc_keep [0, 1, 5, 6, 14, 15] rfl ?_; refine vc_seq ?_; refine vc_block ?_; refine vc_sr ?_; refine vr 2 ?_; refine vco_k [0, 1, 5, 6, 7, 14, 15] ?_; refine vc_sr ?_; refine vr 2 ?_; refine vco_at tbOk rfl rfl rfl rfl rfl (hrg _) (U_get hd) (by omega) (by omega) fun _ => ?_; refine vco_conv tbOk rfl rfl rfl ⟨by omega, by omega⟩ ?_; refine vr 1 ?_; refine vco_mul rfl rfl ⟨by omega, by omega⟩ ?_; refine vr 1 ?_; refine vco_add rfl rfl ⟨by omega, by omega⟩ ?_; refine vr 1 ?_; refine vco_k [0, 1, 5, 7, 8, 14, 15] ?_; refine vc_sr ?_; refine vr 3 ?_; refine vco_rem rfl rfl (by omega) (by omega) ?_; refine vco_conv tbOk rfl rfl rfl ⟨by omega, by omega⟩ ?_; obtain ⟨ti, hti, htz⟩ := sz121; refine vco_set (.inl rfl) tbOk rfl rfl rfl (by omega) (by omega) (ins_same _ _ _) rfl (by rw [uent_len]; omega) hti htz (fun _ => rfl) rfl rfl rfl fun _ => ?_; refine vco_k [0, 1, 5, 8, 14, 15] ?_; refine vc_region rfl ?_; refine vr 1 ?_; refine vco_quo rfl rfl (by omega) (by omega) ⟨by omega, by omega⟩ ?_; refine vr 1 ?_; refine vco_end ?_; refine vc_keep [0, 1, 5, 6, 14, 15] rfl ?_; refine vc_region rfl ?_; refine vco_add rfl rfl ⟨by omega, by omega⟩ ?_; refine vr 1 ?_; refine vco_end ?_; have hst := carry_step (s := d * m + cr) (a := cr) (b := d * m) (u := val (l.take (k + 1)) * m) (by simp; omega) hv (by omega) (by rw [val_take_succ hd, Nat.add_mul, Nat.mul_assoc])
  rw [← take_set_succ (by omega)] at hst; exact ⟨k + 1, o.set k ((d * m + cr) % B), (d * m + cr) / B, by omega, sub_auto, by rw [set_uent (y := (d * m + cr) % B) (by rw [B_eq]; omega)]; rfl, by omega, by simp [hol], hlo.set (Nat.mod_lt _ B_pos), by rw [B_eq]; omega, hst⟩
 ·
  have hb : l.length ≤ k := by simpa using hb
  obtain rfl : k = l.length := by omega
  rw [List.take_length] at hv; refine vc_exit ?_; refine vc_keep [0, 5, 6] rfl ?_; refine vc_sr ?_; refine vr 4 ?_; refine vco_conv tbOk rfl rfl rfl ⟨by omega, by omega⟩ ?_; obtain ⟨ti, hti, htz⟩ := sz121; refine vco_set (.inl rfl) tbOk rfl rfl rfl (by omega) (by omega) (ins_same _ _ _) rfl (by rw [uent_len]; omega) hti htz (fun _ => rfl) rfl rfl rfl fun _ => ?_; refine vco_k [5] ?_; refine vc_sr ?_; refine vr 2 ?_; refine vco_k [4] ?_; refine vc_ret ⟨.inr rfl, _, .tmp rfl (.nil), ?_⟩; refine ⟨g, o.set l.length cr, hg, rfl, ?_, by simp [hol], hlo.set (by rw [B_eq]; omega), ?_⟩
  · rw [set_uent (y := cr) rfl]; rfl
  · rw [← List.take_length (l := o.set l.length cr), List.length_set, hol, take_set_succ (by omega), val_snoc, List.length_take, Nat.min_eq_left (by omega)]; exact hv
theorem divideSmall_ok {H : Heap} {u : Value} {l : List Nat} {m : Nat} (hu : LimV H u l) (hl : Lt l) (hm : m < 1000000000) (hm0 : 0 < m) (hs : (l.length : Int) ≤ 8796093022208) :
  Fn Tryz.prog 223 #[u, .int .u64 (m : Int)] H (fun v H' => Heap.le H H' ∧ ∃ q, v = .tuple #[q, .int .u64 ((val l % m : Nat) : Int)] ∧ NatV H' q (val l / m)) := by
 obtain ⟨A, c, rfl, hc, hr⟩ := hu; refine fn_intro (args := [_, _]) Tryz.func223 rfl rfl Tryz.ntmps223 rfl rfl fun w0 => ?_; refine vc_keep [0, 1] rfl ?_; refine vc_sr ?_; refine vr 2 ?_; refine vco_k [0, 1] ?_; refine vc_sr ?_; refine vr 2 ?_; refine vco_make Tryz.underlying177 el121 rfl rfl rfl (by omega) (by omega) (by omega) (by omega) ?_; intro g hg; rw [show ((l.length : Int)).toNat = l.length from by omega, made_uent']; have hrg := fun e => hr.le (Heap.le_ins (g := g) e hg); refine vr 1 ?_; refine vco_k [0, 1, 6] ?_; refine vc_sr ?_; refine vr 1 ?_; refine vco_k [0, 1, 6, 7] ?_; refine vc_seq ?_; refine vc_sr ?_; refine vr 2 ?_; refine vco_sub rfl rfl ⟨by omega, by omega⟩ ?_; refine vr 1 ?_; refine vco_k [0, 1, 6, 7, 8] ?_; refine vc_block ?_; refine vc_loop3 (fun (k : Nat) (o : List Nat) (rs : Nat) => k) (fun (k : Nat) (o : List Nat) (rs : Nat) => put (put (put (put (put (emp) 0 (.val (.slice A l.length c))) 1 (.val (.int .u64 (m : Int)))) 6 (.val (.slice (some ⟨g, 0, none⟩) l.length l.length))) 7 (.val (.int .u64 (rs : Int)))) 8 (.val (.int .i64 ((k : Int) - 1)))) (fun (k : Nat) (o : List Nat) (rs : Nat) H' => H' = ins H g (uent o l.length) ∧ k ≤ l.length ∧ o.length = l.length ∧ Lt o ∧ rs < m ∧ val (o.drop k) * m + rs = val (l.drop k)) l.length _ 0 (⟨rfl, by omega, by simp, Lt.replicate _, by omega, by simp [val]⟩) sub_auto ?_; rintro k o rs H1 ⟨rfl, hk, hol, hlo, hrs, hv⟩; refine vc_seq ?_
 refine vc_sr ?_; refine vr 2 ?_; refine vco_k [0, 1, 6, 7, 8, 17] ?_; refine vc_cond rfl (fun hb => ?_) (fun hb => ?_)
 ·
  have hb : 1 ≤ k := by simp at hb; omega
  obtain ⟨k, rfl⟩ : ∃ j, k = j + 1 := ⟨k - 1, by omega⟩; obtain ⟨d, hd⟩ : ∃ d, l[k]? = some d := ⟨_, List.getElem?_eq_getElem (by omega)⟩; have hdB := hl.get hd; rw [B_eq] at hdB
  have hj : (((k + 1 : Nat) : Int) - 1).toNat = k := by omega
  have hq0 : ((rs : Int) * 1000000000 + (d : Int)) / (m : Int) < 1000000000 := Int.ediv_lt_of_lt_mul (by omega) (by omega); have hq1 : 0 ≤ ((rs : Int) * 1000000000 + (d : Int)) / (m : Int) := Int.ediv_nonneg (by omega) (by omega); refine vc_skip ?_; refine vc_keep [0, 1, 6, 7, 8] rfl ?_; refine vc_seq ?_; refine vc_block ?_; refine vc_sr ?_; refine vr 1 ?_; refine vco_mul rfl rfl ⟨by omega, by omega⟩ ?_; refine vr 2 ?_; refine vco_at tbOk rfl rfl rfl rfl rfl (hrg _) (by rw [hj]; exact U_get hd) (by omega) (by omega) fun _ => ?_; refine vco_conv tbOk rfl rfl rfl ⟨by omega, by omega⟩ ?_; refine vco_add rfl rfl ⟨by omega, by omega⟩ ?_; refine vr 1 ?_; refine vco_k [0, 1, 6, 8, 9] ?_; refine vc_sr ?_; refine vr 4 ?_; refine vco_quo rfl rfl (by omega) (by omega) ⟨by omega, by omega⟩ ?_; refine vco_conv tbOk rfl rfl rfl ⟨by omega, by omega⟩ ?_; obtain ⟨ti, hti, htz⟩ := sz121; refine vco_set (.inl rfl) tbOk rfl rfl rfl (by omega) (by omega) (ins_same _ _ _) rfl (by rw [uent_len]; omega) hti htz (fun _ => rfl) rfl rfl rfl fun _ => ?_; refine vco_k [0, 1, 6, 8, 9] ?_; refine vc_region rfl ?_; refine vr 2 ?_; refine vco_rem rfl rfl (by omega) (by omega) ?_; refine vr 1 ?_; refine vco_end ?_; refine vc_keep [0, 1, 6, 7, 8] rfl ?_; refine vc_region rfl ?_; refine vr 1 ?_; refine vco_sub rfl rfl ⟨by omega, by omega⟩ ?_; refine vr 1 ?_; refine vco_end ?_
  have hq : (rs * 1000000000 + d) / m < 1000000000 := by rw [Nat.div_lt_iff_lt_mul hm0]; omega
  refine ⟨k, o.set k ((rs * 1000000000 + d) / m), (rs * 1000000000 + d) % m, by omega, sub_auto, by rw [set_uent (y := (rs * 1000000000 + d) / m) (by simp)]; rw [hj], by omega, by simp [hol], hlo.set (by rw [B_eq]; omega), Nat.mod_lt _ hm0, ?_⟩; rw [set_drop (by omega), drop_get hd, val_cons, val_cons, ← hv]; have := Nat.div_add_mod (rs * 1000000000 + d) m
  simp only [B_eq, Nat.add_mul, Nat.mul_add, Nat.mul_assoc]
  rw [Nat.mul_comm m] at this
  omega
 ·
  have hb : k = 0 := by simp at hb; omega
  subst hb
  simp only [List.drop_zero] at hv
  refine vc_exit ?_; refine vc_keep [6, 7] rfl ?_; refine vc_sr ?_; refine vr 1 ?_; refine vco_call rfl rfl (trim_v (lim_uent _ _ o _ _ hol.symm (Nat.le_refl _)) hlo (by omega)) ?_; intro v1 H4 hp; refine vr 3 ?_; refine vco_k [4, 5] ?_; refine vc_ret ⟨.inr rfl, _, .tmp rfl (.tmp rfl (.nil)), ?_⟩; refine ⟨(Heap.le_ins _ hg).trans hp.le, v1, ?_, ?_⟩
  · rw [(div_of hv hrs).2]; rfl
  · rw [(div_of hv hrs).1]; exact hp.nat
end Go.Eng
/- Walks over package rational, nat.go, part 8: the product. -/
namespace Go.Eng
open Go.Proofs Num
/-- Nothing but zeros from p on. -/
def Zer (o : List Nat) (p : Nat) : Prop := ∀ t z, p ≤ t → o[t]? = some z → z = 0
theorem Zer.set {o : List Nat} {p t y : Nat} (h : Zer o p) (ht : t < p) : Zer (o.set t y) p := fun s z hs hz => by
  rw [List.getElem?_set_ne (by omega)] at hz
  exact h s z hs hz
theorem Zer.set' {o : List Nat} {p y : Nat} (h : Zer o p) : Zer (o.set p y) (p + 1) := fun s z hs hz => by
  rw [List.getElem?_set_ne (by omega)] at hz
  exact h s z (by omega) hz
theorem zer_replicate (n p : Nat) : Zer (List.replicate n 0) p := fun t z _ hz => by
  rw [List.getElem?_replicate] at hz
  split at hz
  · cases hz; rfl
  · cases hz
/-- One limb of a row of a product. -/
theorem mul_step {o : List Nat} {i j e cr s X Y P d : Nat} (he : o[i + j]? = some e) (hv : val o + B ^ (i + j) * cr = X + B ^ i * d * Y) (hs : s = d * P + e + cr) :
    val (o.set (i + j) (s % B)) + B ^ (i + (j + 1)) * (s / B) = X + B ^ i * d * (Y + B ^ j * P) := by
  have h1 := val_set (y := s % B) he
  have h2 : B ^ (i + j) * s = B ^ (i + j) * (s % B) + B ^ (i + j) * (B * (s / B)) := by rw [← Nat.mul_add, Nat.mod_add_div]
  have h3 : B ^ (i + j) * s = B ^ (i + j) * (d * P) + B ^ (i + j) * e + B ^ (i + j) * cr := by rw [hs, Nat.mul_add, Nat.mul_add]
  have h4 : B ^ i * d * (B ^ j * P) = B ^ (i + j) * (d * P) := by rw [Nat.pow_add, Nat.mul_assoc, Nat.mul_assoc, Nat.mul_left_comm d]
  rw [Nat.mul_add, h4, ← Nat.add_assoc i j 1, Nat.pow_succ, Nat.mul_assoc]
  omega
theorem nmul_ok {H : Heap} {u v : Value} {x y : Nat} (hx : NatV H u x) (hy : NatV H v y) (hm : ((limbs x).length : Int) ≤ 8796093022208) (hm' : ((limbs y).length : Int) ≤ 8796093022208) :
  Fn Tryz.prog 197 #[u, v] H (RetN H (x * y)) := by
 obtain ⟨A, c, rfl, hc, hr⟩ := hx
 obtain ⟨A', c', rfl, hc', hr'⟩ := hy
 have hla := (nrm_limbs x).lt
 have hlb := (nrm_limbs y).lt; refine fn_intro (args := [_, _]) Tryz.func197 rfl rfl Tryz.ntmps197 rfl rfl fun w0 => ?_; refine vc_keep [0, 1] rfl ?_; refine vc_sr ?_; refine vr 1 ?_; refine vco_k [0, 1] ?_; refine vc_seq ?_
 by_cases hx0 : (limbs x).length = 0
 ·
  skip
  refine vc_sr ?_; refine vr 2 ?_; refine vco_cmp true rfl rfl (ceq_t (by omega)) ?_; refine vr 5 ?_; refine vco_k [0, 1, 17] ?_; refine vc_cond_t rfl ?_; refine vc_sr ?_; refine vr 1 ?_; refine vco_k [4] ?_; refine vc_ret ⟨.inr rfl, _, .tmp rfl (.nil), ?_⟩; exact ⟨.refl _, by have : x = 0 := (by rw [← val_limbs x, List.eq_nil_of_length_eq_zero hx0]; rfl); rw [this, Nat.zero_mul]; exact natV_zero H⟩
 ·
  skip
  refine vc_sr ?_; refine vr 2 ?_; refine vco_cmp false rfl rfl (ceq_f (by omega)) ?_; refine vr 5 ?_; refine vco_k [0, 1, 17] ?_; refine vc_cond rfl (fun hb => ?_) (fun hb => ?_)
  ·
   have hb : (limbs y).length = 0 := by simpa using hb
   refine vc_sr ?_; refine vr 1 ?_; refine vco_k [4] ?_; refine vc_ret ⟨.inr rfl, _, .tmp rfl (.nil), ?_⟩; exact ⟨.refl _, by have : y = 0 := (by rw [← val_limbs y, List.eq_nil_of_length_eq_zero hb]; rfl); rw [this, Nat.mul_zero]; exact natV_zero H⟩
  ·
   have hy0 : (limbs y).length ≠ 0 := by simpa using hb
   refine vc_skip ?_; refine vc_keep [0, 1] rfl ?_; refine vc_sr ?_; refine vr 4 ?_; refine vco_add rfl rfl ⟨by omega, by omega⟩ ?_; refine vco_make Tryz.underlying177 el121 rfl rfl rfl (by omega) (by omega) (by omega) (by omega) ?_; intro g hg; rw [show (((limbs x).length : Int) + ((limbs y).length : Int)).toNat = ((limbs x).length + (limbs y).length) from by omega, made_uent']; have hrg := fun e => hr.le (Heap.le_ins (g := g) e hg); have hrg' := fun e => hr'.le (Heap.le_ins (g := g) e hg); refine vr 1 ?_; refine vco_k [0, 1, 5] ?_; refine vc_seq ?_; refine vc_sr ?_; refine vr 3 ?_; refine vco_k [0, 1, 5, 25, 26] ?_; refine vc_block ?_; refine vc_loop2 (fun (i : Nat) (o : List Nat) => (limbs x).length - i) (fun (i : Nat) (o : List Nat) => put (put (put (put (put (emp) 0 (.val (.slice A (limbs x).length c))) 1 (.val (.slice A' (limbs y).length c'))) 5 (.val (.slice (some ⟨g, 0, none⟩) ((limbs x).length + (limbs y).length) ((limbs x).length + (limbs y).length)))) 25 (.val (.int .i64 ((limbs x).length : Int)))) 26 (.val (.int .i64 (i : Int)))) (fun (i : Nat) (o : List Nat) H' => H' = ins H g (uent o ((limbs x).length + (limbs y).length)) ∧ i ≤ (limbs x).length ∧ o.length = ((limbs x).length + (limbs y).length) ∧ Lt o ∧ Zer o (i + (limbs y).length) ∧ val o = val ((limbs x).take i) * y) 0 _ (⟨rfl, by omega, by simp, Lt.replicate _, zer_replicate _ _, by simp [val, val_replicate]⟩) sub_auto ?_; rintro i o H1 ⟨rfl, hi, hol, hlo, hz, hv⟩; refine vc_sr ?_
   refine vr 1 ?_; refine vco_k [0, 1, 5, 25, 26, 27] ?_; refine vc_seq ?_; refine vc_cond rfl (fun hb => ?_) (fun hb => ?_)
   ·
    have hb : i < (limbs x).length := by simpa using hb
    obtain ⟨d, hd⟩ : ∃ d, (limbs x)[i]? = some d := ⟨_, List.getElem?_eq_getElem hb⟩; have hdB := hla.get hd; rw [B_eq] at hdB; refine vc_skip ?_; refine vc_keep [0, 1, 5, 25, 26] rfl ?_; refine vc_seq ?_; refine vc_block ?_; refine vc_sr ?_; refine vr 2 ?_; refine vco_k [0, 1, 5, 6, 25, 26] ?_; refine vc_sr ?_; refine vr 1 ?_; refine vco_k [0, 1, 5, 6, 7, 25, 26] ?_; refine vc_seq ?_; refine vc_sr ?_; refine vr 3 ?_; refine vco_k [0, 1, 5, 6, 7, 25, 26, 30, 31] ?_; refine vc_block ?_; refine vc_loop3 (fun (j : Nat) (o2 : List Nat) (cr : Nat) => (limbs y).length - j) (fun (j : Nat) (o2 : List Nat) (cr : Nat) => put (put (put (put (put (put (put (put (put (emp) 0 (.val (.slice A (limbs x).length c))) 1 (.val (.slice A' (limbs y).length c'))) 5 (.val (.slice (some ⟨g, 0, none⟩) ((limbs x).length + (limbs y).length) ((limbs x).length + (limbs y).length)))) 6 (.val (.int .i64 (i : Int)))) 7 (.val (.int .u64 (cr : Int)))) 25 (.val (.int .i64 ((limbs x).length : Int)))) 26 (.val (.int .i64 (i : Int)))) 30 (.val (.int .i64 ((limbs y).length : Int)))) 31 (.val (.int .i64 (j : Int)))) (fun (j : Nat) (o2 : List Nat) (cr : Nat) H' => H' = ins H g (uent o2 ((limbs x).length + (limbs y).length)) ∧ j ≤ (limbs y).length ∧ o2.length = ((limbs x).length + (limbs y).length) ∧ Lt o2 ∧ cr < 1000000000 ∧ Zer o2 (i + (limbs y).length) ∧ val o2 + B ^ (i + j) * cr = val ((limbs x).take i) * y + B ^ i * d * val ((limbs y).take j)) 0 o 0 (⟨rfl, by omega, hol, hlo, by omega, hz, by simp [val, hv]⟩) sub_auto ?_
    rintro j o2 cr H1 ⟨rfl, hj, hol2, hlo2, hcr, hz2, hv2⟩; refine vc_sr ?_; refine vr 1 ?_; refine vco_k [0, 1, 5, 6, 7, 25, 26, 30, 31, 32] ?_; refine vc_seq ?_; refine vc_cond rfl (fun hb => ?_) (fun hb => ?_)
    ·
     have hb : j < (limbs y).length := by simpa using hb
     obtain ⟨p, hp⟩ : ∃ p, (limbs y)[j]? = some p := ⟨_, List.getElem?_eq_getElem hb⟩; have hpB := hlb.get hp; rw [B_eq] at hpB; obtain ⟨e, he⟩ : ∃ e, o2[i + j]? = some e := ⟨_, List.getElem?_eq_getElem (by omega)⟩; have heB := hlo2.get he; rw [B_eq] at heB
     have hij : ((i : Int) + (j : Int)).toNat = i + j := by omega
     have hdm : d * p ≤ 999999999 * 999999999 := Nat.mul_le_mul (by omega) (by omega)
     have hdm' : (d : Int) * (p : Int) = ((d * p : Nat) : Int) := by simp
     refine vc_skip ?_; refine vc_keep [0, 1, 5, 6, 7, 25, 26, 30, 31] rfl ?_; refine vc_seq ?_; refine vc_block ?_; refine vc_sr ?_; refine vr 2 ?_; refine vco_k [0, 1, 5, 6, 7, 8, 25, 26, 30, 31] ?_; refine vc_sd .drawB [0, 1, 2, 3, 4, 5, 6, 7, 8, 9, 10, 11, 12, 13, 14, 15, 16, 17, 18, 19, 20, 21] follows (by kernel_rfl) ?_; refine vr 2 ?_; refine vco_at tbOk rfl rfl rfl rfl rfl (hrg _) (U_get hd) (by omega) (by omega) fun _ => ?_; refine vco_conv tbOk rfl rfl rfl ⟨by omega, by omega⟩ ?_; refine vr 2 ?_; refine vco_at tbOk rfl rfl rfl rfl rfl (hrg' _) (U_get hp) (by omega) (by omega) fun _ => ?_; refine vco_conv tbOk rfl rfl rfl ⟨by omega, by omega⟩ ?_; refine vco_mul rfl rfl ⟨by omega, by omega⟩ ?_; refine vr 3 ?_; refine vco_add rfl rfl ⟨by omega, by omega⟩ ?_; refine vco_at tbOk rfl rfl rfl rfl rfl (rd_uent _ _ _ _) (by rw [hij]; exact U_get he) (by omega) (by omega) fun _ => ?_; refine vco_conv tbOk rfl rfl rfl ⟨by omega, by omega⟩ ?_; refine vco_add rfl rfl ⟨by omega, by omega⟩ ?_; refine vr 1 ?_; refine vco_add rfl rfl ⟨by omega, by omega⟩ ?_; refine vr 1 ?_; refine vco_k [0, 1, 5, 6, 8, 9, 25, 26, 30, 31] ?_; refine vc_sr ?_; refine vr 3 ?_; refine vco_add rfl rfl ⟨by omega, by omega⟩ ?_; refine vr 1 ?_; refine vco_rem rfl rfl (by omega) (by omega) ?_; refine vco_conv tbOk rfl rfl rfl ⟨by omega, by omega⟩ ?_; obtain ⟨ti, hti, htz⟩ := sz121; refine vco_set (.inl rfl) tbOk rfl rfl rfl (by omega) (by omega) (ins_same _ _ _) rfl (by rw [uent_len]; omega) hti htz (fun _ => rfl) rfl rfl rfl fun _ => ?_
     refine vco_k [0, 1, 5, 6, 9, 25, 26, 30, 31] ?_; refine vc_region rfl ?_; refine vr 1 ?_; refine vco_quo rfl rfl (by omega) (by omega) ⟨by omega, by omega⟩ ?_; refine vr 1 ?_; refine vco_end ?_; refine vc_keep [0, 1, 5, 6, 7, 25, 26, 30, 31] rfl ?_; refine vc_region rfl ?_; refine vco_add rfl rfl ⟨by omega, by omega⟩ ?_; refine vr 1 ?_; refine vco_end ?_; refine ⟨j + 1, o2.set (i + j) ((d * p + e + cr) % B), (d * p + e + cr) / B, by omega, sub_auto, by rw [set_uent (y := (d * p + e + cr) % B) (by rw [B_eq]; simp), hij], by omega, by simp [hol2], hlo2.set (Nat.mod_lt _ B_pos), by rw [B_eq]; omega, hz2.set (by omega), ?_⟩; rw [val_take_succ hp]; exact mul_step he hv2 rfl
    ·
     have hb : (limbs y).length ≤ j := by simpa using hb
     obtain rfl : j = (limbs y).length := by omega
     rw [List.take_length, val_limbs] at hv2; refine vc_exit ?_; refine vc_keep [0, 1, 5, 6, 7, 25, 26] rfl ?_; refine vc_region rfl ?_; refine vr 4 ?_; refine vco_add rfl rfl ⟨by omega, by omega⟩ ?_; refine vr 1 ?_; refine vco_conv tbOk rfl rfl rfl ⟨by omega, by omega⟩ ?_; obtain ⟨ti, hti, htz⟩ := sz121; refine vco_set (.inl rfl) tbOk rfl rfl rfl (by omega) (by omega) (ins_same _ _ _) rfl (by rw [uent_len]; omega) hti htz (fun _ => rfl) rfl rfl rfl fun _ => ?_; refine vco_end ?_; refine vc_keep [0, 1, 5, 25, 26] rfl ?_; refine vc_region rfl ?_; refine vco_add rfl rfl ⟨by omega, by omega⟩ ?_; refine vr 1 ?_; refine vco_end ?_; obtain ⟨e, he⟩ : ∃ e, o2[i + (limbs y).length]? = some e := ⟨_, List.getElem?_eq_getElem (by omega)⟩; have he0 := hz2 _ _ (Nat.le_refl _) he; subst he0; refine ⟨i + 1, o2.set (i + (limbs y).length) cr, by omega, sub_auto, by rw [set_uent (y := cr) rfl, show ((i : Int) + ((limbs y).length : Int)).toNat = i + (limbs y).length by omega], by omega, by simp [hol2], hlo2.set (by rw [B_eq]; omega), by rw [Nat.add_right_comm]; exact hz2.set', ?_⟩; have h1 := val_set (y := cr) he; rw [val_take_succ hd, Nat.add_mul]
     omega
   ·
    have hb : (limbs x).length ≤ i := by simpa using hb
    obtain rfl : i = (limbs x).length := by omega
    rw [List.take_length, val_limbs] at hv; refine vc_exit ?_; refine vc_keep [5] rfl ?_; refine vc_sr ?_; refine vr 1 ?_; refine vco_call rfl rfl (trim_v (lim_uent _ _ o _ _ hol.symm (Nat.le_refl _)) hlo (by omega)) ?_; intro v1 H4 hp; refine vr 1 ?_; refine vco_k [4] ?_; refine vc_ret ⟨.inr rfl, _, .tmp rfl (.nil), ?_⟩; exact ⟨(Heap.le_ins _ hg).trans hp.le, by have := hp.nat; rwa [hv] at this⟩
end Go.Eng
/- The digit of a long division (plain). -/
namespace Num
theorem kn_dec {T V W vl wl head u2 top next guess rest : Nat} (hV : V = vl + T * (next + B * top)) (hW : W = wl + T * (u2 + B * head)) (hwl : wl < T) (hg : guess * top + rest = head) (hc : rest * B + u2 < guess * next) : W < guess * V := by
  have h1 : u2 + B * head + 1 ≤ guess * (next + B * top) := by
    rw [← hg, Nat.mul_add, Nat.mul_add, Nat.mul_left_comm guess B top, Nat.mul_comm B rest]; omega
  have h2 : T * (u2 + B * head + 1) ≤ T * (guess * (next + B * top)) := Nat.mul_le_mul_left _ h1
  rw [hV, hW, Nat.mul_add guess, Nat.mul_left_comm guess T]
  rw [Nat.mul_add T _ 1] at h2
  omega
theorem kn_small {T V W vl wl head u2 top next guess rest : Nat} (hV : V = vl + T * (next + B * top)) (hW : W = wl + T * (u2 + B * head)) (hvl : vl < T) (htop : 1 ≤ top) (hg : guess * top + rest = head) (hc : guess * next ≤ rest * B + u2) (hgB : guess < B) : guess * V < W + V := by
  have h1 : guess * (next + B * top) ≤ u2 + B * head := by
    rw [← hg, Nat.mul_add, Nat.mul_add, Nat.mul_left_comm guess B top, Nat.mul_comm B rest]; omega
  have h2 : T * (guess * (next + B * top)) ≤ T * (u2 + B * head) := Nat.mul_le_mul_left _ h1
  have h3 : guess * vl ≤ guess * T := Nat.mul_le_mul_left _ (by omega)
  have h4 : guess * T < B * T := Nat.mul_lt_mul_of_pos_right hgB (by omega)
  have h5 : T * (B * 1) ≤ T * (B * top) := Nat.mul_le_mul_left _ (Nat.mul_le_mul_left _ htop)
  have h6 : T * (B * 1) = B * T := by rw [Nat.mul_one, Nat.mul_comm]
  have h7 : T * (next + B * top) = T * next + T * (B * top) := Nat.mul_add _ _ _
  have h8 : guess * V = guess * vl + T * (guess * (next + B * top)) := by rw [hV, Nat.mul_add, Nat.mul_left_comm guess T]
  omega
theorem kn_head {T V W vl wl head u2 top next : Nat} (hV : V = vl + T * (next + B * top)) (hW : W = wl + T * (u2 + B * head)) (hvl : vl < T) (hnext : next < B) (h : W < B * V) : head < (top + 1) * B := by
  have h1 : V < T * (B * (top + 1)) := by
    have h2 : T * (next + B * top + 1) ≤ T * (B * (top + 1)) := Nat.mul_le_mul_left _ (by rw [Nat.mul_add B top 1]; omega)
    rw [Nat.mul_add T _ 1] at h2
    omega
  have h2 : B * V < B * (T * (B * (top + 1))) := Nat.mul_lt_mul_of_pos_left h1 B_pos
  have h3 : T * (B * head) ≤ W := by rw [hW, Nat.mul_add T u2]; omega
  have h4 : T * (B * head) < T * (B * ((top + 1) * B)) := by
    have : B * (T * (B * (top + 1))) = T * (B * ((top + 1) * B)) := by rw [Nat.mul_left_comm B T, Nat.mul_comm (top + 1) B]
    omega
  exact Nat.lt_of_mul_lt_mul_left (Nat.lt_of_mul_lt_mul_left h4)
theorem kn_rest {T V W vl wl head u2 top next guess rest : Nat} (hV : V = vl + T * (next + B * top)) (hW : W = wl + T * (u2 + B * head)) (hvl : vl < T) (hnext : next < B) (hh : head < (top + 1) * B) (hg : guess * top + rest = head) (hr : B ≤ rest) : guess < B ∧ guess * V ≤ W := by
  have h0 : guess < B := by
    have h1 : guess * top < B * top := by rw [Nat.add_mul, Nat.one_mul, Nat.mul_comm top B] at hh; omega
    exact Nat.lt_of_mul_lt_mul_right h1
  refine ⟨h0, ?_⟩
  have h1 : V ≤ T * (B * (top + 1)) := by
    have h2 : T * (next + B * top + 1) ≤ T * (B * (top + 1)) := Nat.mul_le_mul_left _ (by rw [Nat.mul_add B top 1]; omega)
    rw [Nat.mul_add T _ 1] at h2
    omega
  have h2 : guess * V ≤ guess * (T * (B * (top + 1))) := Nat.mul_le_mul_left _ h1
  have h3 : guess * (T * (B * (top + 1))) = T * (B * (guess * (top + 1))) := by rw [Nat.mul_left_comm guess T, Nat.mul_left_comm guess B]
  have h4 : guess * (top + 1) ≤ head := by rw [Nat.mul_add, Nat.mul_one]; omega
  have h5 : T * (B * (guess * (top + 1))) ≤ T * (B * head) := Nat.mul_le_mul_left _ (Nat.mul_le_mul_left _ h4)
  have h6 : T * (B * head) ≤ W := by rw [hW, Nat.mul_add T u2]; omega
  omega
theorem kn_down {guess top rest head : Nat} (hg : guess * top + rest = head) (h : 0 < guess) : (guess - 1) * top + (rest + top) = head := by
  obtain ⟨j, rfl⟩ : ∃ j, guess = j + 1 := ⟨guess - 1, by omega⟩
  rw [Nat.add_mul, Nat.one_mul] at hg
  rw [Nat.add_sub_cancel]; omega
/-- The guess is the digit or one more. -/
theorem kn_two {V W guess q : Nat} (hq : q = W / V) (hV : 0 < V) (h : guess * V < W + V) : guess ≤ q + 1 := by
  subst hq
  have h1 := Nat.div_add_mod W V
  have h2 := Nat.mod_lt W hV
  have h3 : guess * V < (W / V + 2) * V := by
    rw [Nat.add_mul]
    rw [Nat.mul_comm] at h1
    omega
  have := Nat.lt_of_mul_lt_mul_right h3
  omega
theorem kn_gt {V W guess q : Nat} (hq : q = W / V) (h : W < guess * V) : q < guess := by
  subst hq
  exact Nat.div_lt_of_lt_mul (by rwa [Nat.mul_comm] at h)
theorem val_top2 {w : List Nat} {k p a b : Nat} (hl : w.length = k + 3) (h0 : w[k]? = some p) (h1 : w[k + 1]? = some a) (h2 : w[k + 2]? = some b) : val w = val (w.take k) + B ^ k * (p + B * (b * B + a)) := by
  rw [val_part h0, drop_get h1, drop_get h2, List.drop_eq_nil_of_le (by omega), val_cons, val_cons]
  simp only [val, Nat.mul_zero, Nat.add_zero]
  rw [Nat.mul_comm b B, Nat.add_comm a]
theorem val_top1 {w : List Nat} {k p a : Nat} (hl : w.length = k + 2) (h0 : w[k]? = some p) (h1 : w[k + 1]? = some a) : val w = val (w.take k) + B ^ k * (p + B * a) := by
  rw [val_part h0, drop_get h1, List.drop_eq_nil_of_le (by omega), val_cons]
  simp only [val, Nat.mul_zero, Nat.add_zero]
theorem take_lt {w : List Nat} {k : Nat} (h : Lt w) (hk : k ≤ w.length) : val (w.take k) < B ^ k := by
  have := val_lt (h.take k)
  rwa [List.length_take, Nat.min_eq_left hk] at this
/-- The end without correction. -/
theorem kn_fin {n V W X un br guess q : Nat} (hW : W = X + B ^ n * un) {Y : Nat} (hX : X + B ^ n * br = Y + guess * V) (hbr : br ≤ un) (hq : q = W / V) (hgq : q ≤ guess) (hV : 0 < V) : guess = q ∧ Y + B ^ n * (un - br) = W % V := by
  have h1 : B ^ n * un = B ^ n * (un - br) + B ^ n * br := by rw [← Nat.mul_add, Nat.sub_add_cancel hbr]
  have h2 : W = Y + B ^ n * (un - br) + guess * V := by omega
  have h3 : guess ≤ q := by
    rw [hq, Nat.le_div_iff_mul_le hV]; omega
  have h4 : guess = q := by omega
  refine ⟨h4, ?_⟩
  have h5 := Nat.div_add_mod W V
  rw [← hq, ← h4, Nat.mul_comm] at h5
  omega
/-- The end with correction. -/
theorem kn_fix {n V W X un br guess q : Nat} (hW : W = X + B ^ n * un) {Y Z cr : Nat} (hX : X + B ^ n * br = Y + guess * V) (hbr : un < br) (hq : q = W / V) (hg2 : guess ≤ q + 1) (hV : 0 < V) (hVn : V < B ^ n) (hY : Y < B ^ n) (hZ : Z < B ^ n) (hZY : Z + B ^ n * cr = Y + V) : guess = q + 1 ∧ un + cr = br ∧ Z = W % V := by
  have h0 : B ^ n * br = B ^ n * un + B ^ n * (br - un) := by rw [← Nat.mul_add]; congr 1; omega
  have h1 : W + B ^ n * (br - un) = Y + guess * V := by omega
  have h1' : B ^ n * 1 ≤ B ^ n * (br - un) := Nat.mul_le_mul_left _ (by omega)
  have h2 : W < guess * V := by omega
  have h3 := kn_gt hq h2
  have h4 : guess = q + 1 := by omega
  have h5 := Nat.div_add_mod W V
  have h6 := Nat.mod_lt W hV
  rw [← hq, Nat.mul_comm] at h5
  have h7 : guess * V = q * V + V := by rw [h4, Nat.add_mul, Nat.one_mul]
  have h8 : W % V + B ^ n * (br - un) = Z + B ^ n * cr := by omega
  have h9 : br - un = cr := by
    have e1 : (W % V + B ^ n * (br - un)) / B ^ n = br - un := by
      rw [Nat.add_mul_div_left _ _ (by omega), Nat.div_eq_of_lt (by omega), Nat.zero_add]
    have e2 : (Z + B ^ n * cr) / B ^ n = cr := by
      rw [Nat.add_mul_div_left _ _ (by omega), Nat.div_eq_of_lt (by omega), Nat.zero_add]
    rw [← e1, ← e2, h8]
  subst h9
  exact ⟨h4, by omega, by omega⟩
theorem val_app (a b : List Nat) : val (a ++ b) = val a + B ^ a.length * val b := by
  induction a with
  | nil => simp [val]
  | cons x a ih =>
    rw [List.cons_append, val_cons, val_cons, ih, List.length_cons, Nat.pow_succ, Nat.mul_add, Nat.mul_comm (B ^ a.length) B, Nat.mul_assoc]; omega
theorem val_split (l : List Nat) {k : Nat} (hk : k ≤ l.length) : val l = val (l.take k) + B ^ k * val (l.drop k) := by
  have := val_app (l.take k) (l.drop k)
  rwa [List.take_append_drop, List.length_take, Nat.min_eq_left hk] at this
/-- The window of a long division. -/
theorem dv_win {l : List Nat} {j n V : Nat} (hll : Lt l) (hlen : j + n + 1 ≤ l.length) (hd : val (l.drop (j + 1)) < V) (hV : V ≤ B ^ n) :
    val (l.drop (j + n + 1)) = 0 ∧ val (l.drop j) = val ((l.drop j).take (n + 1)) ∧ val ((l.drop j).take (n + 1)) < B * V := by
  have h1 := val_split (l.drop (j + 1)) (k := n) (by simp; omega)
  rw [List.drop_drop, show j + 1 + n = j + n + 1 by omega] at h1
  have h0 : val (l.drop (j + n + 1)) = 0 := by
    rcases Nat.eq_zero_or_pos (val (l.drop (j + n + 1))) with e | e
    · exact e
    · have : B ^ n * 1 ≤ B ^ n * val (l.drop (j + n + 1)) := Nat.mul_le_mul_left _ e
      omega
  have h2 := val_split (l.drop j) (k := n + 1) (by simp; omega)
  rw [List.drop_drop, show j + (n + 1) = j + n + 1 by omega, h0, Nat.mul_zero, Nat.add_zero] at h2
  refine ⟨h0, h2, ?_⟩
  rw [← h2]
  have hj : l[j]? = some l[j] := List.getElem?_eq_getElem (by omega)
  rw [drop_get hj, val_cons]
  have h3 := hll.get hj
  have h4 : B * (val (l.drop (j + 1)) + 1) ≤ B * V := Nat.mul_le_mul_left _ hd
  rw [Nat.mul_add] at h4
  omega
theorem dv_step {l o w' : List Nat} {j n V S q : Nat} (hll : Lt l) (hlen : j + n + 1 ≤ l.length) (hd : val (l.drop (j + 1)) < V) (hV : V ≤ B ^ n) (ho : j < o.length)
    (hinv : val (o.drop (j + 1)) * V * B ^ (j + 1) + val l = S) (hq : q = val ((l.drop j).take (n + 1)) / V) (hw : val w' = val ((l.drop j).take (n + 1)) % V) (hwl : w'.length = n + 1) :
    val ((o.set j q).drop j) * V * B ^ j + val (l.take j ++ w' ++ l.drop (j + n + 1)) = S ∧ val ((l.take j ++ w' ++ l.drop (j + n + 1)).drop j) < V := by
  obtain ⟨h0, h1, h2⟩ := dv_win hll hlen hd hV
  have e1 := val_split l (k := j) (by omega)
  have e2 : val (w' ++ l.drop (j + n + 1)) = val w' := by rw [val_app, h0, Nat.mul_zero, Nat.add_zero]
  have e3 : val (l.take j ++ w' ++ l.drop (j + n + 1)) = val (l.take j) + B ^ j * val w' := by
    rw [List.append_assoc, val_app, e2, List.length_take, Nat.min_eq_left (by omega)]
  have e4 := Nat.div_add_mod (val ((l.drop j).take (n + 1))) V
  rw [← hq, ← hw] at e4
  refine ⟨?_, ?_⟩
  · rw [set_drop ho, val_cons, e3]
    rw [h1, ← e4] at e1
    have e5 : (q + B * val (o.drop (j + 1))) * V * B ^ j = B ^ j * (V * q) + val (o.drop (j + 1)) * V * B ^ (j + 1) := by
      rw [Nat.add_mul, Nat.add_mul, Nat.pow_succ, Nat.mul_comm q V, Nat.mul_comm (V * q), Nat.mul_assoc B, Nat.mul_comm (B ^ j) B, Nat.mul_left_comm _ B, Nat.mul_assoc B]
    rw [Nat.mul_add] at e1
    omega
  · rw [List.append_assoc, List.drop_append_of_le_length (by simp; omega), List.drop_of_length_le (by rw [List.length_take]; omega), List.nil_append, e2, hw]
    exact Nat.mod_lt _ (by omega)
/-- Before the first window. -/
theorem dv_init {l : List Nat} {x sc n m y : Nat} (hm : m ≤ l.length) (hl : val l = x * sc) (hx : x < B ^ (m + (n - 1))) (hy : B ^ (n - 1) ≤ y) (hs : 0 < sc) : val (l.drop m) < y * sc := by
  have h1 := val_split l hm
  have h2 : B ^ m * val (l.drop m) < B ^ m * (y * sc) := by
    have a1 : x * sc < B ^ (m + (n - 1)) * sc := Nat.mul_lt_mul_of_pos_right hx hs
    have a2 : B ^ (m + (n - 1)) * sc ≤ B ^ m * (y * sc) := by
      rw [Nat.pow_add, Nat.mul_assoc]
      exact Nat.mul_le_mul_left _ (Nat.mul_le_mul_right _ hy)
    omega
  exact Nat.lt_of_mul_lt_mul_left h2
/-- The end of a long division. -/
theorem dv_end {Q R x y sc : Nat} (h : Q * (y * sc) + R = x * sc) (hR : R < y * sc) (hs : 0 < sc) : Q = x / y ∧ R / sc = x % y := by
  have h1 : x * sc / (y * sc) = Q := by
    rw [← h, Nat.mul_comm Q, Nat.mul_add_div (by omega), Nat.div_eq_of_lt hR, Nat.add_zero]
  have h2 : x * sc % (y * sc) = R := by
    rw [← h, Nat.mul_comm Q, Nat.mul_add_mod, Nat.mod_eq_of_lt hR]
  rw [Nat.mul_div_mul_right _ _ hs] at h1
  rw [Nat.mul_mod_mul_right] at h2
  exact ⟨h1.symm, by rw [← h2, Nat.mul_div_cancel _ hs]⟩
end Num
