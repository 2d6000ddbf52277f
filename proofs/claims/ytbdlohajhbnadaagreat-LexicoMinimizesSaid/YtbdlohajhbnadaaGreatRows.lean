/-
  No cell of these rows narrows 'for every input' (looked for: loops, veiled, ifaces, maps, wideKeys, modest, calm, conditions, laid).
  DERIVED. THE GIVEN ROWS OF THIS SEAT. 10 by the template 'for every input the law returns true; each argument reads behind the call as it read before'; 0 by the template 'total and deterministic' (their statements: YtbdlohajhbnadaaGreatTotals.lean).
  GIVEN WITH THE SEED: the statements are not yours to turn. If you find one false, say at which input.
  Laid BY PROGRAM, IN A SANDBOX (cutbox-rows.mjs): the forced cells as the released guide's own fill.sh prints them over the translation ff21416a8a4734ab… (all of the seat's roots in one cut). By AI agents, Wed Nov 11 2026. No macro, syntax, notation, axiom, sorry.
-/
import Derived.Test.YtbdlohajhbnadaaGreatChecked
import GoSem.Claim
import GoSem.ClaimJoined
import GoSem.ClaimMapViews
import Derived.JoinedTies
import Derived.KernelRfl
namespace Go.Proofs.YtbdlohajhbnadaaGreat
/- THE CELL 'sum', in the pinned program and in every row, IS THE sha256 OF THE DUMP (.gsa) THAT YtbdlohajhbnadaaGreatProg.lean LOADS. Nothing in Lean hashes anything: it is a label: what it is worth is what the hold of that sum in a sandbox is worth. -/
noncomputable def Tryz.pinned : Pinned := { name := "ytbdlohajhbnadaagreat", sum := "ff21416a8a4734ab1a5226ad219db44cac16fa1f34cda0e5de1e9f2f01a0d4b0", checked := Tryz.checked }
namespace Rows
def none {H : Type} : Left H := { results := [], args := [] }

/-- 'amortcostlaw23.LexicoMinimizes': WHATEVER THE INPUT: true; the input reads as it did. -/
def lexicoMinimizesSpec : ChangeSpec := { name := "lexicoMinimizes", fn := fun _ => fun
  | [d1, d2] => { results := [.lit (.bool true)], args := [d1, d2] }
  | _ => none }
def lexicoMinimizesRow : OpenClaim := { program := "ytbdlohajhbnadaagreat", sum := "ff21416a8a4734ab1a5226ad219db44cac16fa1f34cda0e5de1e9f2f01a0d4b0", func := "amortcost/amortcostlaw23.LexicoMinimizes", spec := "lexicoMinimizes", unfollowed := true, recurses := true, apart := false }
def LexicoMinimizesSaid : Prop := lexicoMinimizesRow.holds Tryz.pinned (OpenSpec.ofChange lexicoMinimizesSpec)

/-- ITS FALSE NEIGHBOUR: 'it returns false'. Refute it at one input. -/
def lexicoMinimizesWrong : ChangeSpec := { name := "lexicoMinimizes", fn := fun _ => fun
  | [d1, d2] => { results := [.lit (.bool false)], args := [d1, d2] }
  | _ => none }
def LexicoMinimizesWrongFalsely : Prop := lexicoMinimizesRow.holds Tryz.pinned (OpenSpec.ofChange lexicoMinimizesWrong)

/-- 'amortcostlaw23.LexicoValues': WHATEVER THE INPUT: true; the input reads as it did. -/
def lexicoValuesSpec : ChangeSpec := { name := "lexicoValues", fn := fun _ => fun
  | [d1, d2] => { results := [.lit (.bool true)], args := [d1, d2] }
  | _ => none }
def lexicoValuesRow : OpenClaim := { program := "ytbdlohajhbnadaagreat", sum := "ff21416a8a4734ab1a5226ad219db44cac16fa1f34cda0e5de1e9f2f01a0d4b0", func := "amortcost/amortcostlaw23.LexicoValues", spec := "lexicoValues", unfollowed := true, recurses := true, apart := false }
def LexicoValuesSaid : Prop := lexicoValuesRow.holds Tryz.pinned (OpenSpec.ofChange lexicoValuesSpec)

/-- ITS FALSE NEIGHBOUR: 'it returns false'. Refute it at one input. -/
def lexicoValuesWrong : ChangeSpec := { name := "lexicoValues", fn := fun _ => fun
  | [d1, d2] => { results := [.lit (.bool false)], args := [d1, d2] }
  | _ => none }
def LexicoValuesWrongFalsely : Prop := lexicoValuesRow.holds Tryz.pinned (OpenSpec.ofChange lexicoValuesWrong)

/-- 'amortcostlaw23.LexicoFirst': WHATEVER THE INPUT: true; the input reads as it did. -/
def lexicoFirstSpec : ChangeSpec := { name := "lexicoFirst", fn := fun _ => fun
  | [d1, d2] => { results := [.lit (.bool true)], args := [d1, d2] }
  | _ => none }
def lexicoFirstRow : OpenClaim := { program := "ytbdlohajhbnadaagreat", sum := "ff21416a8a4734ab1a5226ad219db44cac16fa1f34cda0e5de1e9f2f01a0d4b0", func := "amortcost/amortcostlaw23.LexicoFirst", spec := "lexicoFirst", unfollowed := true, recurses := true, apart := false }
def LexicoFirstSaid : Prop := lexicoFirstRow.holds Tryz.pinned (OpenSpec.ofChange lexicoFirstSpec)

/-- ITS FALSE NEIGHBOUR: 'it returns false'. Refute it at one input. -/
def lexicoFirstWrong : ChangeSpec := { name := "lexicoFirst", fn := fun _ => fun
  | [d1, d2] => { results := [.lit (.bool false)], args := [d1, d2] }
  | _ => none }
def LexicoFirstWrongFalsely : Prop := lexicoFirstRow.holds Tryz.pinned (OpenSpec.ofChange lexicoFirstWrong)

/-- 'amortcostlaw23.LexicoPrefix': WHATEVER THE INPUT: true; the input reads as it did. -/
def lexicoPrefixSpec : ChangeSpec := { name := "lexicoPrefix", fn := fun _ => fun
  | [d1, d2, d3] => { results := [.lit (.bool true)], args := [d1, d2, d3] }
  | _ => none }
def lexicoPrefixRow : OpenClaim := { program := "ytbdlohajhbnadaagreat", sum := "ff21416a8a4734ab1a5226ad219db44cac16fa1f34cda0e5de1e9f2f01a0d4b0", func := "amortcost/amortcostlaw23.LexicoPrefix", spec := "lexicoPrefix", unfollowed := true, recurses := true, apart := false }
def LexicoPrefixSaid : Prop := lexicoPrefixRow.holds Tryz.pinned (OpenSpec.ofChange lexicoPrefixSpec)

/-- ITS FALSE NEIGHBOUR: 'it returns false'. Refute it at one input. -/
def lexicoPrefixWrong : ChangeSpec := { name := "lexicoPrefix", fn := fun _ => fun
  | [d1, d2, d3] => { results := [.lit (.bool false)], args := [d1, d2, d3] }
  | _ => none }
def LexicoPrefixWrongFalsely : Prop := lexicoPrefixRow.holds Tryz.pinned (OpenSpec.ofChange lexicoPrefixWrong)

/-- 'amortcostlaw23.LexicoCombines': WHATEVER THE INPUT: true; the input reads as it did. -/
def lexicoCombinesSpec : ChangeSpec := { name := "lexicoCombines", fn := fun _ => fun
  | [d1, d2, d3] => { results := [.lit (.bool true)], args := [d1, d2, d3] }
  | _ => none }
def lexicoCombinesRow : OpenClaim := { program := "ytbdlohajhbnadaagreat", sum := "ff21416a8a4734ab1a5226ad219db44cac16fa1f34cda0e5de1e9f2f01a0d4b0", func := "amortcost/amortcostlaw23.LexicoCombines", spec := "lexicoCombines", unfollowed := true, recurses := true, apart := false }
def LexicoCombinesSaid : Prop := lexicoCombinesRow.holds Tryz.pinned (OpenSpec.ofChange lexicoCombinesSpec)

/-- ITS FALSE NEIGHBOUR: 'it returns false'. Refute it at one input. -/
def lexicoCombinesWrong : ChangeSpec := { name := "lexicoCombines", fn := fun _ => fun
  | [d1, d2, d3] => { results := [.lit (.bool false)], args := [d1, d2, d3] }
  | _ => none }
def LexicoCombinesWrongFalsely : Prop := lexicoCombinesRow.holds Tryz.pinned (OpenSpec.ofChange lexicoCombinesWrong)

/-- 'amortcostlaw23.LexicoLeast': WHATEVER THE INPUT: true; the input reads as it did. -/
def lexicoLeastSpec : ChangeSpec := { name := "lexicoLeast", fn := fun _ => fun
  | [d] => { results := [.lit (.bool true)], args := [d] }
  | _ => none }
def lexicoLeastRow : OpenClaim := { program := "ytbdlohajhbnadaagreat", sum := "ff21416a8a4734ab1a5226ad219db44cac16fa1f34cda0e5de1e9f2f01a0d4b0", func := "amortcost/amortcostlaw23.LexicoLeast", spec := "lexicoLeast", unfollowed := true, recurses := true, apart := false }
def LexicoLeastSaid : Prop := lexicoLeastRow.holds Tryz.pinned (OpenSpec.ofChange lexicoLeastSpec)

/-- ITS FALSE NEIGHBOUR: 'it returns false'. Refute it at one input. -/
def lexicoLeastWrong : ChangeSpec := { name := "lexicoLeast", fn := fun _ => fun
  | [d] => { results := [.lit (.bool false)], args := [d] }
  | _ => none }
def LexicoLeastWrongFalsely : Prop := lexicoLeastRow.holds Tryz.pinned (OpenSpec.ofChange lexicoLeastWrong)

/-- 'amortcostlaw23.LexicoExtends': WHATEVER THE INPUT: true; the input reads as it did. -/
def lexicoExtendsSpec : ChangeSpec := { name := "lexicoExtends", fn := fun _ => fun
  | [d1, d2, d3] => { results := [.lit (.bool true)], args := [d1, d2, d3] }
  | _ => none }
def lexicoExtendsRow : OpenClaim := { program := "ytbdlohajhbnadaagreat", sum := "ff21416a8a4734ab1a5226ad219db44cac16fa1f34cda0e5de1e9f2f01a0d4b0", func := "amortcost/amortcostlaw23.LexicoExtends", spec := "lexicoExtends", unfollowed := true, recurses := true, apart := false }
def LexicoExtendsSaid : Prop := lexicoExtendsRow.holds Tryz.pinned (OpenSpec.ofChange lexicoExtendsSpec)

/-- ITS FALSE NEIGHBOUR: 'it returns false'. Refute it at one input. -/
def lexicoExtendsWrong : ChangeSpec := { name := "lexicoExtends", fn := fun _ => fun
  | [d1, d2, d3] => { results := [.lit (.bool false)], args := [d1, d2, d3] }
  | _ => none }
def LexicoExtendsWrongFalsely : Prop := lexicoExtendsRow.holds Tryz.pinned (OpenSpec.ofChange lexicoExtendsWrong)

/-- 'amortcostlaw23.LexicoBelow': WHATEVER THE INPUT: true; the input reads as it did. -/
def lexicoBelowSpec : ChangeSpec := { name := "lexicoBelow", fn := fun _ => fun
  | [d1, d2, d3] => { results := [.lit (.bool true)], args := [d1, d2, d3] }
  | _ => none }
def lexicoBelowRow : OpenClaim := { program := "ytbdlohajhbnadaagreat", sum := "ff21416a8a4734ab1a5226ad219db44cac16fa1f34cda0e5de1e9f2f01a0d4b0", func := "amortcost/amortcostlaw23.LexicoBelow", spec := "lexicoBelow", unfollowed := true, recurses := true, apart := false }
def LexicoBelowSaid : Prop := lexicoBelowRow.holds Tryz.pinned (OpenSpec.ofChange lexicoBelowSpec)

/-- ITS FALSE NEIGHBOUR: 'it returns false'. Refute it at one input. -/
def lexicoBelowWrong : ChangeSpec := { name := "lexicoBelow", fn := fun _ => fun
  | [d1, d2, d3] => { results := [.lit (.bool false)], args := [d1, d2, d3] }
  | _ => none }
def LexicoBelowWrongFalsely : Prop := lexicoBelowRow.holds Tryz.pinned (OpenSpec.ofChange lexicoBelowWrong)

/-- 'amortcostlaw23.LexicoOrder': WHATEVER THE INPUT: true; the input reads as it did. -/
def lexicoOrderSpec : ChangeSpec := { name := "lexicoOrder", fn := fun _ => fun
  | [d1, d2, d3] => { results := [.lit (.bool true)], args := [d1, d2, d3] }
  | _ => none }
def lexicoOrderRow : OpenClaim := { program := "ytbdlohajhbnadaagreat", sum := "ff21416a8a4734ab1a5226ad219db44cac16fa1f34cda0e5de1e9f2f01a0d4b0", func := "amortcost/amortcostlaw23.LexicoOrder", spec := "lexicoOrder", unfollowed := true, recurses := true, apart := false }
def LexicoOrderSaid : Prop := lexicoOrderRow.holds Tryz.pinned (OpenSpec.ofChange lexicoOrderSpec)

/-- ITS FALSE NEIGHBOUR: 'it returns false'. Refute it at one input. -/
def lexicoOrderWrong : ChangeSpec := { name := "lexicoOrder", fn := fun _ => fun
  | [d1, d2, d3] => { results := [.lit (.bool false)], args := [d1, d2, d3] }
  | _ => none }
def LexicoOrderWrongFalsely : Prop := lexicoOrderRow.holds Tryz.pinned (OpenSpec.ofChange lexicoOrderWrong)

/-- 'amortcostlaw23.LexicoChecks': WHATEVER THE INPUT: true; the input reads as it did. -/
def lexicoChecksSpec : ChangeSpec := { name := "lexicoChecks", fn := fun _ => fun
  | [d1, d2, d3, d4, d5, d6] => { results := [.lit (.bool true)], args := [d1, d2, d3, d4, d5, d6] }
  | _ => none }
def lexicoChecksRow : OpenClaim := { program := "ytbdlohajhbnadaagreat", sum := "ff21416a8a4734ab1a5226ad219db44cac16fa1f34cda0e5de1e9f2f01a0d4b0", func := "amortcost/amortcostlaw23.LexicoChecks", spec := "lexicoChecks", unfollowed := true, recurses := true, apart := false }
def LexicoChecksSaid : Prop := lexicoChecksRow.holds Tryz.pinned (OpenSpec.ofChange lexicoChecksSpec)

/-- ITS FALSE NEIGHBOUR: 'it returns false'. Refute it at one input. -/
def lexicoChecksWrong : ChangeSpec := { name := "lexicoChecks", fn := fun _ => fun
  | [d1, d2, d3, d4, d5, d6] => { results := [.lit (.bool false)], args := [d1, d2, d3, d4, d5, d6] }
  | _ => none }
def LexicoChecksWrongFalsely : Prop := lexicoChecksRow.holds Tryz.pinned (OpenSpec.ofChange lexicoChecksWrong)

/- THE SECOND FORM. 'bulk': how many values and letters a reading holds, each counted each time it is reached (what is shared counts as often as it is met; a slice's spare places count too). A statement '..UptoSaid' is the law's where the arguments, and the package variables that the reading takes, are together of bulk at most 1048576: NARROWER than '..Said'. Prove '..Said' where nothing that the law and all that it calls make is longer than what came in: it says more and counts as full. Else prove '..UptoSaid'. A law counts once. -/
mutual
def uptoBulk {H : Type} : DataW H → Nat
  | .lit (.string bytes) => bytes.length + 1
  | .lit _ => 1
  | .nil => 1
  | .ptr d => uptoBulk d + 1
  | .slice elems spare => uptoBulkAll elems + uptoBulkAll spare + 1
  | .agg parts => uptoBulkAll parts + 1
  | .iface _ d => uptoBulk d + 1
  | .map entries => uptoBulkEntries entries + 1
  | .held _ => 1
def uptoBulkAll {H : Type} : List (DataW H) → Nat
  | [] => 0
  | d :: r => uptoBulk d + uptoBulkAll r
def uptoBulkEntries {H : Type} : List (Lit × DataW H) → Nat
  | [] => 0
  | x :: r => uptoBulkEntry x + uptoBulkEntries r
def uptoBulkEntry {H : Type} : Lit × DataW H → Nat
  | (.string bytes, d) => bytes.length + uptoBulk d + 1
  | (_, d) => uptoBulk d + 1
 end
def uptoSmall : (H : Type) → List (DataW H) → Bool := fun _ ds => decide (uptoBulkAll ds ≤ 1048576)
def OpenSpec.upto (s : _root_.Go.ChangeSpec) : _root_.Go.OpenSpec := { _root_.Go.OpenSpec.ofChange s with cond := some uptoSmall }

/-- 'amortcostlaw23.LexicoMinimizes', WHERE WHAT IT READS IS OF BULK AT MOST 1048576: true; the input reads as it did. -/
def lexicoMinimizesUptoRow : OpenClaim := { program := "ytbdlohajhbnadaagreat", sum := "ff21416a8a4734ab1a5226ad219db44cac16fa1f34cda0e5de1e9f2f01a0d4b0", func := "amortcost/amortcostlaw23.LexicoMinimizes", spec := "lexicoMinimizes", unfollowed := true, recurses := true, apart := false, narrowed := true }
def LexicoMinimizesUptoSaid : Prop := lexicoMinimizesUptoRow.holds Tryz.pinned (OpenSpec.upto lexicoMinimizesSpec)

/-- 'amortcostlaw23.LexicoValues', WHERE WHAT IT READS IS OF BULK AT MOST 1048576: true; the input reads as it did. -/
def lexicoValuesUptoRow : OpenClaim := { program := "ytbdlohajhbnadaagreat", sum := "ff21416a8a4734ab1a5226ad219db44cac16fa1f34cda0e5de1e9f2f01a0d4b0", func := "amortcost/amortcostlaw23.LexicoValues", spec := "lexicoValues", unfollowed := true, recurses := true, apart := false, narrowed := true }
def LexicoValuesUptoSaid : Prop := lexicoValuesUptoRow.holds Tryz.pinned (OpenSpec.upto lexicoValuesSpec)

/-- 'amortcostlaw23.LexicoFirst', WHERE WHAT IT READS IS OF BULK AT MOST 1048576: true; the input reads as it did. -/
def lexicoFirstUptoRow : OpenClaim := { program := "ytbdlohajhbnadaagreat", sum := "ff21416a8a4734ab1a5226ad219db44cac16fa1f34cda0e5de1e9f2f01a0d4b0", func := "amortcost/amortcostlaw23.LexicoFirst", spec := "lexicoFirst", unfollowed := true, recurses := true, apart := false, narrowed := true }
def LexicoFirstUptoSaid : Prop := lexicoFirstUptoRow.holds Tryz.pinned (OpenSpec.upto lexicoFirstSpec)

/-- 'amortcostlaw23.LexicoPrefix', WHERE WHAT IT READS IS OF BULK AT MOST 1048576: true; the input reads as it did. -/
def lexicoPrefixUptoRow : OpenClaim := { program := "ytbdlohajhbnadaagreat", sum := "ff21416a8a4734ab1a5226ad219db44cac16fa1f34cda0e5de1e9f2f01a0d4b0", func := "amortcost/amortcostlaw23.LexicoPrefix", spec := "lexicoPrefix", unfollowed := true, recurses := true, apart := false, narrowed := true }
def LexicoPrefixUptoSaid : Prop := lexicoPrefixUptoRow.holds Tryz.pinned (OpenSpec.upto lexicoPrefixSpec)

/-- 'amortcostlaw23.LexicoCombines', WHERE WHAT IT READS IS OF BULK AT MOST 1048576: true; the input reads as it did. -/
def lexicoCombinesUptoRow : OpenClaim := { program := "ytbdlohajhbnadaagreat", sum := "ff21416a8a4734ab1a5226ad219db44cac16fa1f34cda0e5de1e9f2f01a0d4b0", func := "amortcost/amortcostlaw23.LexicoCombines", spec := "lexicoCombines", unfollowed := true, recurses := true, apart := false, narrowed := true }
def LexicoCombinesUptoSaid : Prop := lexicoCombinesUptoRow.holds Tryz.pinned (OpenSpec.upto lexicoCombinesSpec)

/-- 'amortcostlaw23.LexicoLeast', WHERE WHAT IT READS IS OF BULK AT MOST 1048576: true; the input reads as it did. -/
def lexicoLeastUptoRow : OpenClaim := { program := "ytbdlohajhbnadaagreat", sum := "ff21416a8a4734ab1a5226ad219db44cac16fa1f34cda0e5de1e9f2f01a0d4b0", func := "amortcost/amortcostlaw23.LexicoLeast", spec := "lexicoLeast", unfollowed := true, recurses := true, apart := false, narrowed := true }
def LexicoLeastUptoSaid : Prop := lexicoLeastUptoRow.holds Tryz.pinned (OpenSpec.upto lexicoLeastSpec)

/-- 'amortcostlaw23.LexicoExtends', WHERE WHAT IT READS IS OF BULK AT MOST 1048576: true; the input reads as it did. -/
def lexicoExtendsUptoRow : OpenClaim := { program := "ytbdlohajhbnadaagreat", sum := "ff21416a8a4734ab1a5226ad219db44cac16fa1f34cda0e5de1e9f2f01a0d4b0", func := "amortcost/amortcostlaw23.LexicoExtends", spec := "lexicoExtends", unfollowed := true, recurses := true, apart := false, narrowed := true }
def LexicoExtendsUptoSaid : Prop := lexicoExtendsUptoRow.holds Tryz.pinned (OpenSpec.upto lexicoExtendsSpec)

/-- 'amortcostlaw23.LexicoBelow', WHERE WHAT IT READS IS OF BULK AT MOST 1048576: true; the input reads as it did. -/
def lexicoBelowUptoRow : OpenClaim := { program := "ytbdlohajhbnadaagreat", sum := "ff21416a8a4734ab1a5226ad219db44cac16fa1f34cda0e5de1e9f2f01a0d4b0", func := "amortcost/amortcostlaw23.LexicoBelow", spec := "lexicoBelow", unfollowed := true, recurses := true, apart := false, narrowed := true }
def LexicoBelowUptoSaid : Prop := lexicoBelowUptoRow.holds Tryz.pinned (OpenSpec.upto lexicoBelowSpec)

/-- 'amortcostlaw23.LexicoOrder', WHERE WHAT IT READS IS OF BULK AT MOST 1048576: true; the input reads as it did. -/
def lexicoOrderUptoRow : OpenClaim := { program := "ytbdlohajhbnadaagreat", sum := "ff21416a8a4734ab1a5226ad219db44cac16fa1f34cda0e5de1e9f2f01a0d4b0", func := "amortcost/amortcostlaw23.LexicoOrder", spec := "lexicoOrder", unfollowed := true, recurses := true, apart := false, narrowed := true }
def LexicoOrderUptoSaid : Prop := lexicoOrderUptoRow.holds Tryz.pinned (OpenSpec.upto lexicoOrderSpec)

/-- 'amortcostlaw23.LexicoChecks', WHERE WHAT IT READS IS OF BULK AT MOST 1048576: true; the input reads as it did. -/
def lexicoChecksUptoRow : OpenClaim := { program := "ytbdlohajhbnadaagreat", sum := "ff21416a8a4734ab1a5226ad219db44cac16fa1f34cda0e5de1e9f2f01a0d4b0", func := "amortcost/amortcostlaw23.LexicoChecks", spec := "lexicoChecks", unfollowed := true, recurses := true, apart := false, narrowed := true }
def LexicoChecksUptoSaid : Prop := lexicoChecksUptoRow.holds Tryz.pinned (OpenSpec.upto lexicoChecksSpec)

end Rows
end Go.Proofs.YtbdlohajhbnadaaGreat
