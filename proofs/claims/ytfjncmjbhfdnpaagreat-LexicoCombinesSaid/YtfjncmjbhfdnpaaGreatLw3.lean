/- LexicoFirst: the law's walk. -/
import Derived.Test.YtfjncmjbhfdnpaaGreatA10
import Derived.Test.YtfjncmjbhfdnpaaGreatLw2
set_option linter.unusedVariables false
namespace Go.Eng
open Go.Proofs Num Lp
/-- What Minimize of lexico gives for arguments without an error. -/
def LexQ (p : Prg) (os : List (List Rat)) (H : Heap) (v : Value) (H' : Heap) : Prop := Heap.le H H' ∧ ∃ (S : LexS) (A1 : Option Addr) (c1 : Nat) (A2 : Option Addr) (c2 : Nat) (A3 : Option Addr) (c3 : Nat) (A4 : Option Addr) (c4 : Nat), v = .tuple #[.agg #[.int .i64 S.status, .slice A1 S.values.length c1, .slice A2 S.x.length c2, .slice A3 S.duals.length c3, .slice A4 S.ray.length c4], .int .i64 0] ∧ ChkLex p os S ∧ SlV (RatP KX) 3 H' (.slice A1 S.values.length c1) S.values ∧ SlV (RatP KX) 3 H' (.slice A2 S.x.length c2) S.x ∧ LsV KX H' (.slice A3 S.duals.length c3) S.duals ∧ SlV (RatP KX) 3 H' (.slice A4 S.ray.length c4) S.ray
theorem lexQ_ok {N E f0 : Nat} {H : Heap} {v ov : Value} {p : Prg} {os : List (List Rat)} (hp : ProgV N H v p) (ho : LsV N H ov os) (hN : N ≤ KX) (hf : LexFine p os) (hz : LexSz p os E f0) : Fn Tryz.prog 17 #[v, ov] H (LexQ p os H) := by
  have hl := hf.lev
  refine (lexMin_ok hp ho hN (by omega) (fun _ => hz)).mono ?_
  rintro v' H' ⟨hl4, s, e, rfl, hE, hcs⟩
  have he := lexE_unique hE (.inr (.inr (.inr ⟨hf, rfl⟩)))
  subst he
  rcases hcs with ⟨h9, _⟩ | ⟨_, S, ⟨A1, c1, A2, c2, A3, c3, A4, c4, rfl, h⟩, hchk⟩
  · exact absurd rfl h9
  · exact ⟨hl4, S, A1, c1, A2, c2, A3, c3, A4, c4, rfl, hchk, h⟩
end Go.Eng
