/-
  No cell of these rows narrows 'for every input' (looked for: loops, veiled, ifaces, maps, wideKeys, modest, calm, conditions, laid).
  DERIVED. THE GIVEN ROWS OF THIS SEAT. 12 by the template 'for every input the law returns true; each argument reads behind the call as it read before'; 0 by the template 'total and deterministic' (their statements: YtfkeccepnppjnaaGreatTotals.lean).
  GIVEN WITH THE SEED: the statements are not yours to turn. If you find one false, say at which input.
  Laid BY PROGRAM, IN A SANDBOX (cutbox-rows.mjs): the forced cells as the released guide's own fill.sh prints them over the translation bedb56937d1f054a… (all of the seat's roots in one cut). By AI agents, Wed Nov 11 2026. No macro, syntax, notation, axiom, sorry.
-/
import Derived.Test.YtfkeccepnppjnaaGreatChecked
import GoSem.Claim
import GoSem.ClaimJoined
import GoSem.ClaimMapViews
import Derived.JoinedTies
import Derived.KernelRfl
namespace Go.Proofs.YtfkeccepnppjnaaGreat
/- THE CELL 'sum', in the pinned program and in every row, IS THE sha256 OF THE DUMP (.gsa) THAT YtfkeccepnppjnaaGreatProg.lean LOADS. Nothing in Lean hashes anything: it is a label: what it is worth is what the hold of that sum in a sandbox is worth. -/
noncomputable def Tryz.pinned : Pinned := { name := "ytfkeccepnppjnaagreat", sum := "bedb56937d1f054a2fdda5777cc34511003a2f323c1f9de100d414564ef1798b", checked := Tryz.checked }
namespace Rows
def none {H : Type} : Left H := { results := [], args := [] }

/-- 'amortcostlaw22.SimplexAccepts': WHATEVER THE INPUT: true; the input reads as it did. -/
def simplexAcceptsSpec : ChangeSpec := { name := "simplexAccepts", fn := fun _ => fun
  | [d1, d2, d3, d4, d5] => { results := [.lit (.bool true)], args := [d1, d2, d3, d4, d5] }
  | _ => none }
def simplexAcceptsRow : OpenClaim := { program := "ytfkeccepnppjnaagreat", sum := "bedb56937d1f054a2fdda5777cc34511003a2f323c1f9de100d414564ef1798b", func := "amortcost/amortcostlaw22.SimplexAccepts", spec := "simplexAccepts", unfollowed := true, recurses := true, apart := false }
def SimplexAcceptsSaid : Prop := simplexAcceptsRow.holds Tryz.pinned (OpenSpec.ofChange simplexAcceptsSpec)

/-- ITS FALSE NEIGHBOUR: 'it returns false'. Refute it at one input. -/
def simplexAcceptsWrong : ChangeSpec := { name := "simplexAccepts", fn := fun _ => fun
  | [d1, d2, d3, d4, d5] => { results := [.lit (.bool false)], args := [d1, d2, d3, d4, d5] }
  | _ => none }
def SimplexAcceptsWrongFalsely : Prop := simplexAcceptsRow.holds Tryz.pinned (OpenSpec.ofChange simplexAcceptsWrong)

/-- 'amortcostlaw22.SimplexMinimizes': WHATEVER THE INPUT: true; the input reads as it did. -/
def simplexMinimizesSpec : ChangeSpec := { name := "simplexMinimizes", fn := fun _ => fun
  | [d1, d2] => { results := [.lit (.bool true)], args := [d1, d2] }
  | _ => none }
def simplexMinimizesRow : OpenClaim := { program := "ytfkeccepnppjnaagreat", sum := "bedb56937d1f054a2fdda5777cc34511003a2f323c1f9de100d414564ef1798b", func := "amortcost/amortcostlaw22.SimplexMinimizes", spec := "simplexMinimizes", unfollowed := true, recurses := true, apart := false }
def SimplexMinimizesSaid : Prop := simplexMinimizesRow.holds Tryz.pinned (OpenSpec.ofChange simplexMinimizesSpec)

/-- ITS FALSE NEIGHBOUR: 'it returns false'. Refute it at one input. -/
def simplexMinimizesWrong : ChangeSpec := { name := "simplexMinimizes", fn := fun _ => fun
  | [d1, d2] => { results := [.lit (.bool false)], args := [d1, d2] }
  | _ => none }
def SimplexMinimizesWrongFalsely : Prop := simplexMinimizesRow.holds Tryz.pinned (OpenSpec.ofChange simplexMinimizesWrong)

/-- 'amortcostlaw22.SimplexValues': WHATEVER THE INPUT: true; the input reads as it did. -/
def simplexValuesSpec : ChangeSpec := { name := "simplexValues", fn := fun _ => fun
  | [d1, d2] => { results := [.lit (.bool true)], args := [d1, d2] }
  | _ => none }
def simplexValuesRow : OpenClaim := { program := "ytfkeccepnppjnaagreat", sum := "bedb56937d1f054a2fdda5777cc34511003a2f323c1f9de100d414564ef1798b", func := "amortcost/amortcostlaw22.SimplexValues", spec := "simplexValues", unfollowed := true, recurses := true, apart := false }
def SimplexValuesSaid : Prop := simplexValuesRow.holds Tryz.pinned (OpenSpec.ofChange simplexValuesSpec)

/-- ITS FALSE NEIGHBOUR: 'it returns false'. Refute it at one input. -/
def simplexValuesWrong : ChangeSpec := { name := "simplexValues", fn := fun _ => fun
  | [d1, d2] => { results := [.lit (.bool false)], args := [d1, d2] }
  | _ => none }
def SimplexValuesWrongFalsely : Prop := simplexValuesRow.holds Tryz.pinned (OpenSpec.ofChange simplexValuesWrong)

/-- 'amortcostlaw22.SimplexTightens': WHATEVER THE INPUT: true; the input reads as it did. -/
def simplexTightensSpec : ChangeSpec := { name := "simplexTightens", fn := fun _ => fun
  | [d1, d2, d3] => { results := [.lit (.bool true)], args := [d1, d2, d3] }
  | _ => none }
def simplexTightensRow : OpenClaim := { program := "ytfkeccepnppjnaagreat", sum := "bedb56937d1f054a2fdda5777cc34511003a2f323c1f9de100d414564ef1798b", func := "amortcost/amortcostlaw22.SimplexTightens", spec := "simplexTightens", unfollowed := true, recurses := true, apart := false }
def SimplexTightensSaid : Prop := simplexTightensRow.holds Tryz.pinned (OpenSpec.ofChange simplexTightensSpec)

/-- ITS FALSE NEIGHBOUR: 'it returns false'. Refute it at one input. -/
def simplexTightensWrong : ChangeSpec := { name := "simplexTightens", fn := fun _ => fun
  | [d1, d2, d3] => { results := [.lit (.bool false)], args := [d1, d2, d3] }
  | _ => none }
def SimplexTightensWrongFalsely : Prop := simplexTightensRow.holds Tryz.pinned (OpenSpec.ofChange simplexTightensWrong)

/-- 'amortcostlaw22.SimplexScales': WHATEVER THE INPUT: true; the input reads as it did. -/
def simplexScalesSpec : ChangeSpec := { name := "simplexScales", fn := fun _ => fun
  | [d1, d2, d3, d4] => { results := [.lit (.bool true)], args := [d1, d2, d3, d4] }
  | _ => none }
def simplexScalesRow : OpenClaim := { program := "ytfkeccepnppjnaagreat", sum := "bedb56937d1f054a2fdda5777cc34511003a2f323c1f9de100d414564ef1798b", func := "amortcost/amortcostlaw22.SimplexScales", spec := "simplexScales", unfollowed := true, recurses := true, apart := false }
def SimplexScalesSaid : Prop := simplexScalesRow.holds Tryz.pinned (OpenSpec.ofChange simplexScalesSpec)

/-- ITS FALSE NEIGHBOUR: 'it returns false'. Refute it at one input. -/
def simplexScalesWrong : ChangeSpec := { name := "simplexScales", fn := fun _ => fun
  | [d1, d2, d3, d4] => { results := [.lit (.bool false)], args := [d1, d2, d3, d4] }
  | _ => none }
def SimplexScalesWrongFalsely : Prop := simplexScalesRow.holds Tryz.pinned (OpenSpec.ofChange simplexScalesWrong)

/-- 'amortcostlaw22.SimplexTurns': WHATEVER THE INPUT: true; the input reads as it did. -/
def simplexTurnsSpec : ChangeSpec := { name := "simplexTurns", fn := fun _ => fun
  | [d1, d2, d3, d4] => { results := [.lit (.bool true)], args := [d1, d2, d3, d4] }
  | _ => none }
def simplexTurnsRow : OpenClaim := { program := "ytfkeccepnppjnaagreat", sum := "bedb56937d1f054a2fdda5777cc34511003a2f323c1f9de100d414564ef1798b", func := "amortcost/amortcostlaw22.SimplexTurns", spec := "simplexTurns", unfollowed := true, recurses := true, apart := false }
def SimplexTurnsSaid : Prop := simplexTurnsRow.holds Tryz.pinned (OpenSpec.ofChange simplexTurnsSpec)

/-- ITS FALSE NEIGHBOUR: 'it returns false'. Refute it at one input. -/
def simplexTurnsWrong : ChangeSpec := { name := "simplexTurns", fn := fun _ => fun
  | [d1, d2, d3, d4] => { results := [.lit (.bool false)], args := [d1, d2, d3, d4] }
  | _ => none }
def SimplexTurnsWrongFalsely : Prop := simplexTurnsRow.holds Tryz.pinned (OpenSpec.ofChange simplexTurnsWrong)

/-- 'amortcostlaw22.SimplexEquations': WHATEVER THE INPUT: true; the input reads as it did. -/
def simplexEquationsSpec : ChangeSpec := { name := "simplexEquations", fn := fun _ => fun
  | [d1, d2, d3, d4] => { results := [.lit (.bool true)], args := [d1, d2, d3, d4] }
  | _ => none }
def simplexEquationsRow : OpenClaim := { program := "ytfkeccepnppjnaagreat", sum := "bedb56937d1f054a2fdda5777cc34511003a2f323c1f9de100d414564ef1798b", func := "amortcost/amortcostlaw22.SimplexEquations", spec := "simplexEquations", unfollowed := true, recurses := true, apart := false }
def SimplexEquationsSaid : Prop := simplexEquationsRow.holds Tryz.pinned (OpenSpec.ofChange simplexEquationsSpec)

/-- ITS FALSE NEIGHBOUR: 'it returns false'. Refute it at one input. -/
def simplexEquationsWrong : ChangeSpec := { name := "simplexEquations", fn := fun _ => fun
  | [d1, d2, d3, d4] => { results := [.lit (.bool false)], args := [d1, d2, d3, d4] }
  | _ => none }
def SimplexEquationsWrongFalsely : Prop := simplexEquationsRow.holds Tryz.pinned (OpenSpec.ofChange simplexEquationsWrong)

/-- 'amortcostlaw22.SimplexForms': WHATEVER THE INPUT: true; the input reads as it did. -/
def simplexFormsSpec : ChangeSpec := { name := "simplexForms", fn := fun _ => fun
  | [d1, d2, d3] => { results := [.lit (.bool true)], args := [d1, d2, d3] }
  | _ => none }
def simplexFormsRow : OpenClaim := { program := "ytfkeccepnppjnaagreat", sum := "bedb56937d1f054a2fdda5777cc34511003a2f323c1f9de100d414564ef1798b", func := "amortcost/amortcostlaw22.SimplexForms", spec := "simplexForms", unfollowed := true, recurses := true, apart := false }
def SimplexFormsSaid : Prop := simplexFormsRow.holds Tryz.pinned (OpenSpec.ofChange simplexFormsSpec)

/-- ITS FALSE NEIGHBOUR: 'it returns false'. Refute it at one input. -/
def simplexFormsWrong : ChangeSpec := { name := "simplexForms", fn := fun _ => fun
  | [d1, d2, d3] => { results := [.lit (.bool false)], args := [d1, d2, d3] }
  | _ => none }
def SimplexFormsWrongFalsely : Prop := simplexFormsRow.holds Tryz.pinned (OpenSpec.ofChange simplexFormsWrong)

/-- 'amortcostlaw22.SimplexBasics': WHATEVER THE INPUT: true; the input reads as it did. -/
def simplexBasicsSpec : ChangeSpec := { name := "simplexBasics", fn := fun _ => fun
  | [d1, d2, d3] => { results := [.lit (.bool true)], args := [d1, d2, d3] }
  | _ => none }
def simplexBasicsRow : OpenClaim := { program := "ytfkeccepnppjnaagreat", sum := "bedb56937d1f054a2fdda5777cc34511003a2f323c1f9de100d414564ef1798b", func := "amortcost/amortcostlaw22.SimplexBasics", spec := "simplexBasics", unfollowed := true, recurses := true, apart := false }
def SimplexBasicsSaid : Prop := simplexBasicsRow.holds Tryz.pinned (OpenSpec.ofChange simplexBasicsSpec)

/-- ITS FALSE NEIGHBOUR: 'it returns false'. Refute it at one input. -/
def simplexBasicsWrong : ChangeSpec := { name := "simplexBasics", fn := fun _ => fun
  | [d1, d2, d3] => { results := [.lit (.bool false)], args := [d1, d2, d3] }
  | _ => none }
def SimplexBasicsWrongFalsely : Prop := simplexBasicsRow.holds Tryz.pinned (OpenSpec.ofChange simplexBasicsWrong)

/-- 'amortcostlaw22.SimplexDuals': WHATEVER THE INPUT: true; the input reads as it did. -/
def simplexDualsSpec : ChangeSpec := { name := "simplexDuals", fn := fun _ => fun
  | [d1, d2] => { results := [.lit (.bool true)], args := [d1, d2] }
  | _ => none }
def simplexDualsRow : OpenClaim := { program := "ytfkeccepnppjnaagreat", sum := "bedb56937d1f054a2fdda5777cc34511003a2f323c1f9de100d414564ef1798b", func := "amortcost/amortcostlaw22.SimplexDuals", spec := "simplexDuals", unfollowed := true, recurses := true, apart := false }
def SimplexDualsSaid : Prop := simplexDualsRow.holds Tryz.pinned (OpenSpec.ofChange simplexDualsSpec)

/-- ITS FALSE NEIGHBOUR: 'it returns false'. Refute it at one input. -/
def simplexDualsWrong : ChangeSpec := { name := "simplexDuals", fn := fun _ => fun
  | [d1, d2] => { results := [.lit (.bool false)], args := [d1, d2] }
  | _ => none }
def SimplexDualsWrongFalsely : Prop := simplexDualsRow.holds Tryz.pinned (OpenSpec.ofChange simplexDualsWrong)

/-- 'amortcostlaw22.SimplexDuality': WHATEVER THE INPUT: true; the input reads as it did. -/
def simplexDualitySpec : ChangeSpec := { name := "simplexDuality", fn := fun _ => fun
  | [d1, d2] => { results := [.lit (.bool true)], args := [d1, d2] }
  | _ => none }
def simplexDualityRow : OpenClaim := { program := "ytfkeccepnppjnaagreat", sum := "bedb56937d1f054a2fdda5777cc34511003a2f323c1f9de100d414564ef1798b", func := "amortcost/amortcostlaw22.SimplexDuality", spec := "simplexDuality", unfollowed := true, recurses := true, apart := false }
def SimplexDualitySaid : Prop := simplexDualityRow.holds Tryz.pinned (OpenSpec.ofChange simplexDualitySpec)

/-- ITS FALSE NEIGHBOUR: 'it returns false'. Refute it at one input. -/
def simplexDualityWrong : ChangeSpec := { name := "simplexDuality", fn := fun _ => fun
  | [d1, d2] => { results := [.lit (.bool false)], args := [d1, d2] }
  | _ => none }
def SimplexDualityWrongFalsely : Prop := simplexDualityRow.holds Tryz.pinned (OpenSpec.ofChange simplexDualityWrong)

/-- 'amortcostlaw22.SimplexWeak': WHATEVER THE INPUT: true; the input reads as it did. -/
def simplexWeakSpec : ChangeSpec := { name := "simplexWeak", fn := fun _ => fun
  | [d1, d2, d3, d4] => { results := [.lit (.bool true)], args := [d1, d2, d3, d4] }
  | _ => none }
def simplexWeakRow : OpenClaim := { program := "ytfkeccepnppjnaagreat", sum := "bedb56937d1f054a2fdda5777cc34511003a2f323c1f9de100d414564ef1798b", func := "amortcost/amortcostlaw22.SimplexWeak", spec := "simplexWeak", unfollowed := true, recurses := true, apart := false }
def SimplexWeakSaid : Prop := simplexWeakRow.holds Tryz.pinned (OpenSpec.ofChange simplexWeakSpec)

/-- ITS FALSE NEIGHBOUR: 'it returns false'. Refute it at one input. -/
def simplexWeakWrong : ChangeSpec := { name := "simplexWeak", fn := fun _ => fun
  | [d1, d2, d3, d4] => { results := [.lit (.bool false)], args := [d1, d2, d3, d4] }
  | _ => none }
def SimplexWeakWrongFalsely : Prop := simplexWeakRow.holds Tryz.pinned (OpenSpec.ofChange simplexWeakWrong)

/- THE SECOND FORM. 'bulk': how many values and letters a reading holds, each counted each time it is reached (what is shared counts as often as it is met; a slice's spare places count too). A statement '..UptoSaid' is the law's where the arguments, and the package variables that the reading takes, are together of bulk at most 1048576: NARROWER than '..Said'. Prove '..Said' where nothing that the law and all that it calls make is longer than what came in: it says more and counts as full. Else prove '..UptoSaid'. A law counts once. -/
mutual
def uptoBulk {H : Type} : DataW H → Nat
  | .lit (.string bytes) => bytes.length + 1
  | .lit _ => 1
  | .nil => 1
  | .ptr d => uptoBulk d + 1
  | .slice elems spare => uptoBulkAll elems + uptoBulkAll spare + 1
  | .agg parts => uptoBulkAll parts + 1
  | .iface _ d => uptoBulk d + 1
  | .map entries => uptoBulkEntries entries + 1
  | .held _ => 1
def uptoBulkAll {H : Type} : List (DataW H) → Nat
  | [] => 0
  | d :: r => uptoBulk d + uptoBulkAll r
def uptoBulkEntries {H : Type} : List (Lit × DataW H) → Nat
  | [] => 0
  | x :: r => uptoBulkEntry x + uptoBulkEntries r
def uptoBulkEntry {H : Type} : Lit × DataW H → Nat
  | (.string bytes, d) => bytes.length + uptoBulk d + 1
  | (_, d) => uptoBulk d + 1
 end
def uptoSmall : (H : Type) → List (DataW H) → Bool := fun _ ds => decide (uptoBulkAll ds ≤ 1048576)
def OpenSpec.upto (s : _root_.Go.ChangeSpec) : _root_.Go.OpenSpec := { _root_.Go.OpenSpec.ofChange s with cond := some uptoSmall }

/-- 'amortcostlaw22.SimplexAccepts', WHERE WHAT IT READS IS OF BULK AT MOST 1048576: true; the input reads as it did. -/
def simplexAcceptsUptoRow : OpenClaim := { program := "ytfkeccepnppjnaagreat", sum := "bedb56937d1f054a2fdda5777cc34511003a2f323c1f9de100d414564ef1798b", func := "amortcost/amortcostlaw22.SimplexAccepts", spec := "simplexAccepts", unfollowed := true, recurses := true, apart := false, narrowed := true }
def SimplexAcceptsUptoSaid : Prop := simplexAcceptsUptoRow.holds Tryz.pinned (OpenSpec.upto simplexAcceptsSpec)

/-- 'amortcostlaw22.SimplexMinimizes', WHERE WHAT IT READS IS OF BULK AT MOST 1048576: true; the input reads as it did. -/
def simplexMinimizesUptoRow : OpenClaim := { program := "ytfkeccepnppjnaagreat", sum := "bedb56937d1f054a2fdda5777cc34511003a2f323c1f9de100d414564ef1798b", func := "amortcost/amortcostlaw22.SimplexMinimizes", spec := "simplexMinimizes", unfollowed := true, recurses := true, apart := false, narrowed := true }
def SimplexMinimizesUptoSaid : Prop := simplexMinimizesUptoRow.holds Tryz.pinned (OpenSpec.upto simplexMinimizesSpec)

/-- 'amortcostlaw22.SimplexValues', WHERE WHAT IT READS IS OF BULK AT MOST 1048576: true; the input reads as it did. -/
def simplexValuesUptoRow : OpenClaim := { program := "ytfkeccepnppjnaagreat", sum := "bedb56937d1f054a2fdda5777cc34511003a2f323c1f9de100d414564ef1798b", func := "amortcost/amortcostlaw22.SimplexValues", spec := "simplexValues", unfollowed := true, recurses := true, apart := false, narrowed := true }
def SimplexValuesUptoSaid : Prop := simplexValuesUptoRow.holds Tryz.pinned (OpenSpec.upto simplexValuesSpec)

/-- 'amortcostlaw22.SimplexTightens', WHERE WHAT IT READS IS OF BULK AT MOST 1048576: true; the input reads as it did. -/
def simplexTightensUptoRow : OpenClaim := { program := "ytfkeccepnppjnaagreat", sum := "bedb56937d1f054a2fdda5777cc34511003a2f323c1f9de100d414564ef1798b", func := "amortcost/amortcostlaw22.SimplexTightens", spec := "simplexTightens", unfollowed := true, recurses := true, apart := false, narrowed := true }
def SimplexTightensUptoSaid : Prop := simplexTightensUptoRow.holds Tryz.pinned (OpenSpec.upto simplexTightensSpec)

/-- 'amortcostlaw22.SimplexScales', WHERE WHAT IT READS IS OF BULK AT MOST 1048576: true; the input reads as it did. -/
def simplexScalesUptoRow : OpenClaim := { program := "ytfkeccepnppjnaagreat", sum := "bedb56937d1f054a2fdda5777cc34511003a2f323c1f9de100d414564ef1798b", func := "amortcost/amortcostlaw22.SimplexScales", spec := "simplexScales", unfollowed := true, recurses := true, apart := false, narrowed := true }
def SimplexScalesUptoSaid : Prop := simplexScalesUptoRow.holds Tryz.pinned (OpenSpec.upto simplexScalesSpec)

/-- 'amortcostlaw22.SimplexTurns', WHERE WHAT IT READS IS OF BULK AT MOST 1048576: true; the input reads as it did. -/
def simplexTurnsUptoRow : OpenClaim := { program := "ytfkeccepnppjnaagreat", sum := "bedb56937d1f054a2fdda5777cc34511003a2f323c1f9de100d414564ef1798b", func := "amortcost/amortcostlaw22.SimplexTurns", spec := "simplexTurns", unfollowed := true, recurses := true, apart := false, narrowed := true }
def SimplexTurnsUptoSaid : Prop := simplexTurnsUptoRow.holds Tryz.pinned (OpenSpec.upto simplexTurnsSpec)

/-- 'amortcostlaw22.SimplexEquations', WHERE WHAT IT READS IS OF BULK AT MOST 1048576: true; the input reads as it did. -/
def simplexEquationsUptoRow : OpenClaim := { program := "ytfkeccepnppjnaagreat", sum := "bedb56937d1f054a2fdda5777cc34511003a2f323c1f9de100d414564ef1798b", func := "amortcost/amortcostlaw22.SimplexEquations", spec := "simplexEquations", unfollowed := true, recurses := true, apart := false, narrowed := true }
def SimplexEquationsUptoSaid : Prop := simplexEquationsUptoRow.holds Tryz.pinned (OpenSpec.upto simplexEquationsSpec)

/-- 'amortcostlaw22.SimplexForms', WHERE WHAT IT READS IS OF BULK AT MOST 1048576: true; the input reads as it did. -/
def simplexFormsUptoRow : OpenClaim := { program := "ytfkeccepnppjnaagreat", sum := "bedb56937d1f054a2fdda5777cc34511003a2f323c1f9de100d414564ef1798b", func := "amortcost/amortcostlaw22.SimplexForms", spec := "simplexForms", unfollowed := true, recurses := true, apart := false, narrowed := true }
def SimplexFormsUptoSaid : Prop := simplexFormsUptoRow.holds Tryz.pinned (OpenSpec.upto simplexFormsSpec)

/-- 'amortcostlaw22.SimplexBasics', WHERE WHAT IT READS IS OF BULK AT MOST 1048576: true; the input reads as it did. -/
def simplexBasicsUptoRow : OpenClaim := { program := "ytfkeccepnppjnaagreat", sum := "bedb56937d1f054a2fdda5777cc34511003a2f323c1f9de100d414564ef1798b", func := "amortcost/amortcostlaw22.SimplexBasics", spec := "simplexBasics", unfollowed := true, recurses := true, apart := false, narrowed := true }
def SimplexBasicsUptoSaid : Prop := simplexBasicsUptoRow.holds Tryz.pinned (OpenSpec.upto simplexBasicsSpec)

/-- 'amortcostlaw22.SimplexDuals', WHERE WHAT IT READS IS OF BULK AT MOST 1048576: true; the input reads as it did. -/
def simplexDualsUptoRow : OpenClaim := { program := "ytfkeccepnppjnaagreat", sum := "bedb56937d1f054a2fdda5777cc34511003a2f323c1f9de100d414564ef1798b", func := "amortcost/amortcostlaw22.SimplexDuals", spec := "simplexDuals", unfollowed := true, recurses := true, apart := false, narrowed := true }
def SimplexDualsUptoSaid : Prop := simplexDualsUptoRow.holds Tryz.pinned (OpenSpec.upto simplexDualsSpec)

/-- 'amortcostlaw22.SimplexDuality', WHERE WHAT IT READS IS OF BULK AT MOST 1048576: true; the input reads as it did. -/
def simplexDualityUptoRow : OpenClaim := { program := "ytfkeccepnppjnaagreat", sum := "bedb56937d1f054a2fdda5777cc34511003a2f323c1f9de100d414564ef1798b", func := "amortcost/amortcostlaw22.SimplexDuality", spec := "simplexDuality", unfollowed := true, recurses := true, apart := false, narrowed := true }
def SimplexDualityUptoSaid : Prop := simplexDualityUptoRow.holds Tryz.pinned (OpenSpec.upto simplexDualitySpec)

/-- 'amortcostlaw22.SimplexWeak', WHERE WHAT IT READS IS OF BULK AT MOST 1048576: true; the input reads as it did. -/
def simplexWeakUptoRow : OpenClaim := { program := "ytfkeccepnppjnaagreat", sum := "bedb56937d1f054a2fdda5777cc34511003a2f323c1f9de100d414564ef1798b", func := "amortcost/amortcostlaw22.SimplexWeak", spec := "simplexWeak", unfollowed := true, recurses := true, apart := false, narrowed := true }
def SimplexWeakUptoSaid : Prop := simplexWeakUptoRow.holds Tryz.pinned (OpenSpec.upto simplexWeakSpec)

end Rows
end Go.Proofs.YtfkeccepnppjnaaGreat
