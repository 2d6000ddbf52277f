/-
  No cell of these rows narrows 'for every input' (looked for: loops, veiled, ifaces, maps, wideKeys, modest, calm, conditions, laid).
  DERIVED. THE GIVEN ROWS OF THIS SEAT. 2 by the template 'for every input the law returns true; each argument reads behind the call as it read before'; 0 by the template 'total and deterministic' (their statements: YtgjimcieaecdkaaGreatTotals.lean).
  GIVEN WITH THE SEED: the statements are not yours to turn. If you find one false, say at which input.
  Laid BY PROGRAM, IN A SANDBOX (cutbox-rows.mjs): the forced cells as the released guide's own fill.sh prints them over the translation 96da8d3f0774d2a6… (all of the seat's roots in one cut). By AI agents, Wed Nov 11 2026. No macro, syntax, notation, axiom, sorry.
-/
import Derived.Test.YtgjimcieaecdkaaGreatChecked
import GoSem.Claim
import GoSem.ClaimJoined
import GoSem.ClaimMapViews
import Derived.JoinedTies
import Derived.KernelRfl
namespace Go.Proofs.YtgjimcieaecdkaaGreat
/- THE CELL 'sum', in the pinned program and in every row, IS THE sha256 OF THE DUMP (.gsa) THAT YtgjimcieaecdkaaGreatProg.lean LOADS. Nothing in Lean hashes anything: it is a label: what it is worth is what the hold of that sum in a sandbox is worth. -/
noncomputable def Tryz.pinned : Pinned := { name := "ytgjimcieaecdkaagreat", sum := "96da8d3f0774d2a68c84192181bd94eba5c5803935b925ce71d85d7bda1d2aa0", checked := Tryz.checked }
namespace Rows
def none {H : Type} : Left H := { results := [], args := [] }

/-- 'amortcostlaw22.SimplexTightens': WHATEVER THE INPUT: true; the input reads as it did. -/
def simplexTightensSpec : ChangeSpec := { name := "simplexTightens", fn := fun _ => fun
  | [d1, d2, d3] => { results := [.lit (.bool true)], args := [d1, d2, d3] }
  | _ => none }
def simplexTightensRow : OpenClaim := { program := "ytgjimcieaecdkaagreat", sum := "96da8d3f0774d2a68c84192181bd94eba5c5803935b925ce71d85d7bda1d2aa0", func := "amortcost/amortcostlaw22.SimplexTightens", spec := "simplexTightens", unfollowed := true, recurses := true, apart := false }
def SimplexTightensSaid : Prop := simplexTightensRow.holds Tryz.pinned (OpenSpec.ofChange simplexTightensSpec)

/-- ITS FALSE NEIGHBOUR: 'it returns false'. Refute it at one input. -/
def simplexTightensWrong : ChangeSpec := { name := "simplexTightens", fn := fun _ => fun
  | [d1, d2, d3] => { results := [.lit (.bool false)], args := [d1, d2, d3] }
  | _ => none }
def SimplexTightensWrongFalsely : Prop := simplexTightensRow.holds Tryz.pinned (OpenSpec.ofChange simplexTightensWrong)

/-- 'amortcostlaw23.LexicoBelow': WHATEVER THE INPUT: true; the input reads as it did. -/
def lexicoBelowSpec : ChangeSpec := { name := "lexicoBelow", fn := fun _ => fun
  | [d1, d2, d3] => { results := [.lit (.bool true)], args := [d1, d2, d3] }
  | _ => none }
def lexicoBelowRow : OpenClaim := { program := "ytgjimcieaecdkaagreat", sum := "96da8d3f0774d2a68c84192181bd94eba5c5803935b925ce71d85d7bda1d2aa0", func := "amortcost/amortcostlaw23.LexicoBelow", spec := "lexicoBelow", unfollowed := true, recurses := true, apart := false }
def LexicoBelowSaid : Prop := lexicoBelowRow.holds Tryz.pinned (OpenSpec.ofChange lexicoBelowSpec)

/-- ITS FALSE NEIGHBOUR: 'it returns false'. Refute it at one input. -/
def lexicoBelowWrong : ChangeSpec := { name := "lexicoBelow", fn := fun _ => fun
  | [d1, d2, d3] => { results := [.lit (.bool false)], args := [d1, d2, d3] }
  | _ => none }
def LexicoBelowWrongFalsely : Prop := lexicoBelowRow.holds Tryz.pinned (OpenSpec.ofChange lexicoBelowWrong)

/- THE SECOND FORM. 'bulk': how many values and letters a reading holds, each counted each time it is reached (what is shared counts as often as it is met; a slice's spare places count too). A statement '..UptoSaid' is the law's where the arguments, and the package variables that the reading takes, are together of bulk at most 1048576: NARROWER than '..Said'. Prove '..Said' where nothing that the law and all that it calls make is longer than what came in: it says more and counts as full. Else prove '..UptoSaid'. A law counts once. -/
mutual
def uptoBulk {H : Type} : DataW H → Nat
  | .lit (.string bytes) => bytes.length + 1
  | .lit _ => 1
  | .nil => 1
  | .ptr d => uptoBulk d + 1
  | .slice elems spare => uptoBulkAll elems + uptoBulkAll spare + 1
  | .agg parts => uptoBulkAll parts + 1
  | .iface _ d => uptoBulk d + 1
  | .map entries => uptoBulkEntries entries + 1
  | .held _ => 1
def uptoBulkAll {H : Type} : List (DataW H) → Nat
  | [] => 0
  | d :: r => uptoBulk d + uptoBulkAll r
def uptoBulkEntries {H : Type} : List (Lit × DataW H) → Nat
  | [] => 0
  | x :: r => uptoBulkEntry x + uptoBulkEntries r
def uptoBulkEntry {H : Type} : Lit × DataW H → Nat
  | (.string bytes, d) => bytes.length + uptoBulk d + 1
  | (_, d) => uptoBulk d + 1
 end
def uptoSmall : (H : Type) → List (DataW H) → Bool := fun _ ds => decide (uptoBulkAll ds ≤ 1048576)
def OpenSpec.upto (s : _root_.Go.ChangeSpec) : _root_.Go.OpenSpec := { _root_.Go.OpenSpec.ofChange s with cond := some uptoSmall }

/-- 'amortcostlaw22.SimplexTightens', WHERE WHAT IT READS IS OF BULK AT MOST 1048576: true; the input reads as it did. -/
def simplexTightensUptoRow : OpenClaim := { program := "ytgjimcieaecdkaagreat", sum := "96da8d3f0774d2a68c84192181bd94eba5c5803935b925ce71d85d7bda1d2aa0", func := "amortcost/amortcostlaw22.SimplexTightens", spec := "simplexTightens", unfollowed := true, recurses := true, apart := false, narrowed := true }
def SimplexTightensUptoSaid : Prop := simplexTightensUptoRow.holds Tryz.pinned (OpenSpec.upto simplexTightensSpec)

/-- 'amortcostlaw23.LexicoBelow', WHERE WHAT IT READS IS OF BULK AT MOST 1048576: true; the input reads as it did. -/
def lexicoBelowUptoRow : OpenClaim := { program := "ytgjimcieaecdkaagreat", sum := "96da8d3f0774d2a68c84192181bd94eba5c5803935b925ce71d85d7bda1d2aa0", func := "amortcost/amortcostlaw23.LexicoBelow", spec := "lexicoBelow", unfollowed := true, recurses := true, apart := false, narrowed := true }
def LexicoBelowUptoSaid : Prop := lexicoBelowUptoRow.holds Tryz.pinned (OpenSpec.upto lexicoBelowSpec)

end Rows
end Go.Proofs.YtgjimcieaecdkaaGreat
