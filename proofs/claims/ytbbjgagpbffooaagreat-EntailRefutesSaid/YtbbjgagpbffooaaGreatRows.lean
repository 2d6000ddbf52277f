/-
  No cell of these rows narrows 'for every input' (looked for: loops, veiled, ifaces, maps, wideKeys, modest, calm, conditions, laid).
  DERIVED. THE GIVEN ROWS OF THIS SEAT. 12 by the template 'for every input the law returns true; each argument reads behind the call as it read before'; 0 by the template 'total and deterministic' (their statements: YtbbjgagpbffooaaGreatTotals.lean).
  GIVEN WITH THE SEED: the statements are not yours to turn. If you find one false, say at which input.
  Laid BY PROGRAM, IN A SANDBOX (cutbox-rows.mjs): the forced cells as the released guide's own fill.sh prints them over the translation 5e1cec638a8acafb… (all of the seat's roots in one cut). By AI agents, Wed Nov 11 2026. No macro, syntax, notation, axiom, sorry.
-/
import Derived.Test.YtbbjgagpbffooaaGreatChecked
import GoSem.Claim
import GoSem.ClaimJoined
import GoSem.ClaimMapViews
import Derived.JoinedTies
import Derived.KernelRfl
namespace Go.Proofs.YtbbjgagpbffooaaGreat
/- THE CELL 'sum', in the pinned program and in every row, IS THE sha256 OF THE DUMP (.gsa) THAT YtbbjgagpbffooaaGreatProg.lean LOADS. Nothing in Lean hashes anything: it is a label: what it is worth is what the hold of that sum in a sandbox is worth. -/
noncomputable def Tryz.pinned : Pinned := { name := "ytbbjgagpbffooaagreat", sum := "5e1cec638a8acafb9962e5c67e940b8dfc7444e08a3698dea779f6088102f5f2", checked := Tryz.checked }
namespace Rows
def none {H : Type} : Left H := { results := [], args := [] }

/-- 'amortcostlaw24.EntailChecks': WHATEVER THE INPUT: true; the input reads as it did. -/
def entailChecksSpec : ChangeSpec := { name := "entailChecks", fn := fun _ => fun
  | [d1, d2, d3] => { results := [.lit (.bool true)], args := [d1, d2, d3] }
  | _ => none }
def entailChecksRow : OpenClaim := { program := "ytbbjgagpbffooaagreat", sum := "5e1cec638a8acafb9962e5c67e940b8dfc7444e08a3698dea779f6088102f5f2", func := "amortcost/amortcostlaw24.EntailChecks", spec := "entailChecks", unfollowed := true, recurses := true, apart := false }
def EntailChecksSaid : Prop := entailChecksRow.holds Tryz.pinned (OpenSpec.ofChange entailChecksSpec)

/-- ITS FALSE NEIGHBOUR: 'it returns false'. Refute it at one input. -/
def entailChecksWrong : ChangeSpec := { name := "entailChecks", fn := fun _ => fun
  | [d1, d2, d3] => { results := [.lit (.bool false)], args := [d1, d2, d3] }
  | _ => none }
def EntailChecksWrongFalsely : Prop := entailChecksRow.holds Tryz.pinned (OpenSpec.ofChange entailChecksWrong)

/-- 'amortcostlaw24.EntailCombines': WHATEVER THE INPUT: true; the input reads as it did. -/
def entailCombinesSpec : ChangeSpec := { name := "entailCombines", fn := fun _ => fun
  | [d1, d2, d3] => { results := [.lit (.bool true)], args := [d1, d2, d3] }
  | _ => none }
def entailCombinesRow : OpenClaim := { program := "ytbbjgagpbffooaagreat", sum := "5e1cec638a8acafb9962e5c67e940b8dfc7444e08a3698dea779f6088102f5f2", func := "amortcost/amortcostlaw24.EntailCombines", spec := "entailCombines", unfollowed := true, recurses := true, apart := false }
def EntailCombinesSaid : Prop := entailCombinesRow.holds Tryz.pinned (OpenSpec.ofChange entailCombinesSpec)

/-- ITS FALSE NEIGHBOUR: 'it returns false'. Refute it at one input. -/
def entailCombinesWrong : ChangeSpec := { name := "entailCombines", fn := fun _ => fun
  | [d1, d2, d3] => { results := [.lit (.bool false)], args := [d1, d2, d3] }
  | _ => none }
def EntailCombinesWrongFalsely : Prop := entailCombinesRow.holds Tryz.pinned (OpenSpec.ofChange entailCombinesWrong)

/-- 'amortcostlaw24.EntailImplies': WHATEVER THE INPUT: true; the input reads as it did. -/
def entailImpliesSpec : ChangeSpec := { name := "entailImplies", fn := fun _ => fun
  | [d1, d2] => { results := [.lit (.bool true)], args := [d1, d2] }
  | _ => none }
def entailImpliesRow : OpenClaim := { program := "ytbbjgagpbffooaagreat", sum := "5e1cec638a8acafb9962e5c67e940b8dfc7444e08a3698dea779f6088102f5f2", func := "amortcost/amortcostlaw24.EntailImplies", spec := "entailImplies", unfollowed := true, recurses := true, apart := false }
def EntailImpliesSaid : Prop := entailImpliesRow.holds Tryz.pinned (OpenSpec.ofChange entailImpliesSpec)

/-- ITS FALSE NEIGHBOUR: 'it returns false'. Refute it at one input. -/
def entailImpliesWrong : ChangeSpec := { name := "entailImplies", fn := fun _ => fun
  | [d1, d2] => { results := [.lit (.bool false)], args := [d1, d2] }
  | _ => none }
def EntailImpliesWrongFalsely : Prop := entailImpliesRow.holds Tryz.pinned (OpenSpec.ofChange entailImpliesWrong)

/-- 'amortcostlaw24.EntailGrows': WHATEVER THE INPUT: true; the input reads as it did. -/
def entailGrowsSpec : ChangeSpec := { name := "entailGrows", fn := fun _ => fun
  | [d1, d2, d3, d4] => { results := [.lit (.bool true)], args := [d1, d2, d3, d4] }
  | _ => none }
def entailGrowsRow : OpenClaim := { program := "ytbbjgagpbffooaagreat", sum := "5e1cec638a8acafb9962e5c67e940b8dfc7444e08a3698dea779f6088102f5f2", func := "amortcost/amortcostlaw24.EntailGrows", spec := "entailGrows", unfollowed := true, recurses := true, apart := false }
def EntailGrowsSaid : Prop := entailGrowsRow.holds Tryz.pinned (OpenSpec.ofChange entailGrowsSpec)

/-- ITS FALSE NEIGHBOUR: 'it returns false'. Refute it at one input. -/
def entailGrowsWrong : ChangeSpec := { name := "entailGrows", fn := fun _ => fun
  | [d1, d2, d3, d4] => { results := [.lit (.bool false)], args := [d1, d2, d3, d4] }
  | _ => none }
def EntailGrowsWrongFalsely : Prop := entailGrowsRow.holds Tryz.pinned (OpenSpec.ofChange entailGrowsWrong)

/-- 'amortcostlaw24.EntailAdds': WHATEVER THE INPUT: true; the input reads as it did. -/
def entailAddsSpec : ChangeSpec := { name := "entailAdds", fn := fun _ => fun
  | [d1, d2, d3] => { results := [.lit (.bool true)], args := [d1, d2, d3] }
  | _ => none }
def entailAddsRow : OpenClaim := { program := "ytbbjgagpbffooaagreat", sum := "5e1cec638a8acafb9962e5c67e940b8dfc7444e08a3698dea779f6088102f5f2", func := "amortcost/amortcostlaw24.EntailAdds", spec := "entailAdds", unfollowed := true, recurses := true, apart := false }
def EntailAddsSaid : Prop := entailAddsRow.holds Tryz.pinned (OpenSpec.ofChange entailAddsSpec)

/-- ITS FALSE NEIGHBOUR: 'it returns false'. Refute it at one input. -/
def entailAddsWrong : ChangeSpec := { name := "entailAdds", fn := fun _ => fun
  | [d1, d2, d3] => { results := [.lit (.bool false)], args := [d1, d2, d3] }
  | _ => none }
def EntailAddsWrongFalsely : Prop := entailAddsRow.holds Tryz.pinned (OpenSpec.ofChange entailAddsWrong)

/-- 'amortcostlaw24.EntailChains': WHATEVER THE INPUT: true; the input reads as it did. -/
def entailChainsSpec : ChangeSpec := { name := "entailChains", fn := fun _ => fun
  | [d1, d2, d3] => { results := [.lit (.bool true)], args := [d1, d2, d3] }
  | _ => none }
def entailChainsRow : OpenClaim := { program := "ytbbjgagpbffooaagreat", sum := "5e1cec638a8acafb9962e5c67e940b8dfc7444e08a3698dea779f6088102f5f2", func := "amortcost/amortcostlaw24.EntailChains", spec := "entailChains", unfollowed := true, recurses := true, apart := false }
def EntailChainsSaid : Prop := entailChainsRow.holds Tryz.pinned (OpenSpec.ofChange entailChainsSpec)

/-- ITS FALSE NEIGHBOUR: 'it returns false'. Refute it at one input. -/
def entailChainsWrong : ChangeSpec := { name := "entailChains", fn := fun _ => fun
  | [d1, d2, d3] => { results := [.lit (.bool false)], args := [d1, d2, d3] }
  | _ => none }
def EntailChainsWrongFalsely : Prop := entailChainsRow.holds Tryz.pinned (OpenSpec.ofChange entailChainsWrong)

/-- 'amortcostlaw24.EntailLimits': WHATEVER THE INPUT: true; the input reads as it did. -/
def entailLimitsSpec : ChangeSpec := { name := "entailLimits", fn := fun _ => fun
  | [d1, d2, d3] => { results := [.lit (.bool true)], args := [d1, d2, d3] }
  | _ => none }
def entailLimitsRow : OpenClaim := { program := "ytbbjgagpbffooaagreat", sum := "5e1cec638a8acafb9962e5c67e940b8dfc7444e08a3698dea779f6088102f5f2", func := "amortcost/amortcostlaw24.EntailLimits", spec := "entailLimits", unfollowed := true, recurses := true, apart := false }
def EntailLimitsSaid : Prop := entailLimitsRow.holds Tryz.pinned (OpenSpec.ofChange entailLimitsSpec)

/-- ITS FALSE NEIGHBOUR: 'it returns false'. Refute it at one input. -/
def entailLimitsWrong : ChangeSpec := { name := "entailLimits", fn := fun _ => fun
  | [d1, d2, d3] => { results := [.lit (.bool false)], args := [d1, d2, d3] }
  | _ => none }
def EntailLimitsWrongFalsely : Prop := entailLimitsRow.holds Tryz.pinned (OpenSpec.ofChange entailLimitsWrong)

/-- 'amortcostlaw24.EntailLeast': WHATEVER THE INPUT: true; the input reads as it did. -/
def entailLeastSpec : ChangeSpec := { name := "entailLeast", fn := fun _ => fun
  | [d1, d2] => { results := [.lit (.bool true)], args := [d1, d2] }
  | _ => none }
def entailLeastRow : OpenClaim := { program := "ytbbjgagpbffooaagreat", sum := "5e1cec638a8acafb9962e5c67e940b8dfc7444e08a3698dea779f6088102f5f2", func := "amortcost/amortcostlaw24.EntailLeast", spec := "entailLeast", unfollowed := true, recurses := true, apart := false }
def EntailLeastSaid : Prop := entailLeastRow.holds Tryz.pinned (OpenSpec.ofChange entailLeastSpec)

/-- ITS FALSE NEIGHBOUR: 'it returns false'. Refute it at one input. -/
def entailLeastWrong : ChangeSpec := { name := "entailLeast", fn := fun _ => fun
  | [d1, d2] => { results := [.lit (.bool false)], args := [d1, d2] }
  | _ => none }
def EntailLeastWrongFalsely : Prop := entailLeastRow.holds Tryz.pinned (OpenSpec.ofChange entailLeastWrong)

/-- 'amortcostlaw24.EntailRefutes': WHATEVER THE INPUT: true; the input reads as it did. -/
def entailRefutesSpec : ChangeSpec := { name := "entailRefutes", fn := fun _ => fun
  | [d] => { results := [.lit (.bool true)], args := [d] }
  | _ => none }
def entailRefutesRow : OpenClaim := { program := "ytbbjgagpbffooaagreat", sum := "5e1cec638a8acafb9962e5c67e940b8dfc7444e08a3698dea779f6088102f5f2", func := "amortcost/amortcostlaw24.EntailRefutes", spec := "entailRefutes", unfollowed := true, recurses := true, apart := false }
def EntailRefutesSaid : Prop := entailRefutesRow.holds Tryz.pinned (OpenSpec.ofChange entailRefutesSpec)

/-- ITS FALSE NEIGHBOUR: 'it returns false'. Refute it at one input. -/
def entailRefutesWrong : ChangeSpec := { name := "entailRefutes", fn := fun _ => fun
  | [d] => { results := [.lit (.bool false)], args := [d] }
  | _ => none }
def EntailRefutesWrongFalsely : Prop := entailRefutesRow.holds Tryz.pinned (OpenSpec.ofChange entailRefutesWrong)

/-- 'amortcostlaw24.EntailComplete': WHATEVER THE INPUT: true; the input reads as it did. -/
def entailCompleteSpec : ChangeSpec := { name := "entailComplete", fn := fun _ => fun
  | [d1, d2] => { results := [.lit (.bool true)], args := [d1, d2] }
  | _ => none }
def entailCompleteRow : OpenClaim := { program := "ytbbjgagpbffooaagreat", sum := "5e1cec638a8acafb9962e5c67e940b8dfc7444e08a3698dea779f6088102f5f2", func := "amortcost/amortcostlaw24.EntailComplete", spec := "entailComplete", unfollowed := true, recurses := true, apart := false }
def EntailCompleteSaid : Prop := entailCompleteRow.holds Tryz.pinned (OpenSpec.ofChange entailCompleteSpec)

/-- ITS FALSE NEIGHBOUR: 'it returns false'. Refute it at one input. -/
def entailCompleteWrong : ChangeSpec := { name := "entailComplete", fn := fun _ => fun
  | [d1, d2] => { results := [.lit (.bool false)], args := [d1, d2] }
  | _ => none }
def EntailCompleteWrongFalsely : Prop := entailCompleteRow.holds Tryz.pinned (OpenSpec.ofChange entailCompleteWrong)

/-- 'amortcostlaw24.EntailHolds': WHATEVER THE INPUT: true; the input reads as it did. -/
def entailHoldsSpec : ChangeSpec := { name := "entailHolds", fn := fun _ => fun
  | [d1, d2, d3] => { results := [.lit (.bool true)], args := [d1, d2, d3] }
  | _ => none }
def entailHoldsRow : OpenClaim := { program := "ytbbjgagpbffooaagreat", sum := "5e1cec638a8acafb9962e5c67e940b8dfc7444e08a3698dea779f6088102f5f2", func := "amortcost/amortcostlaw24.EntailHolds", spec := "entailHolds", unfollowed := true, recurses := true, apart := false }
def EntailHoldsSaid : Prop := entailHoldsRow.holds Tryz.pinned (OpenSpec.ofChange entailHoldsSpec)

/-- ITS FALSE NEIGHBOUR: 'it returns false'. Refute it at one input. -/
def entailHoldsWrong : ChangeSpec := { name := "entailHolds", fn := fun _ => fun
  | [d1, d2, d3] => { results := [.lit (.bool false)], args := [d1, d2, d3] }
  | _ => none }
def EntailHoldsWrongFalsely : Prop := entailHoldsRow.holds Tryz.pinned (OpenSpec.ofChange entailHoldsWrong)

/-- 'amortcostlaw24.EntailSound': WHATEVER THE INPUT: true; the input reads as it did. -/
def entailSoundSpec : ChangeSpec := { name := "entailSound", fn := fun _ => fun
  | [d1, d2, d3, d4] => { results := [.lit (.bool true)], args := [d1, d2, d3, d4] }
  | _ => none }
def entailSoundRow : OpenClaim := { program := "ytbbjgagpbffooaagreat", sum := "5e1cec638a8acafb9962e5c67e940b8dfc7444e08a3698dea779f6088102f5f2", func := "amortcost/amortcostlaw24.EntailSound", spec := "entailSound", unfollowed := true, recurses := true, apart := false }
def EntailSoundSaid : Prop := entailSoundRow.holds Tryz.pinned (OpenSpec.ofChange entailSoundSpec)

/-- ITS FALSE NEIGHBOUR: 'it returns false'. Refute it at one input. -/
def entailSoundWrong : ChangeSpec := { name := "entailSound", fn := fun _ => fun
  | [d1, d2, d3, d4] => { results := [.lit (.bool false)], args := [d1, d2, d3, d4] }
  | _ => none }
def EntailSoundWrongFalsely : Prop := entailSoundRow.holds Tryz.pinned (OpenSpec.ofChange entailSoundWrong)

/- THE SECOND FORM. 'bulk': how many values and letters a reading holds, each counted each time it is reached (what is shared counts as often as it is met; a slice's spare places count too). A statement '..UptoSaid' is the law's where the arguments, and the package variables that the reading takes, are together of bulk at most 1048576: NARROWER than '..Said'. Prove '..Said' where nothing that the law and all that it calls make is longer than what came in: it says more and counts as full. Else prove '..UptoSaid'. A law counts once. -/
mutual
def uptoBulk {H : Type} : DataW H → Nat
  | .lit (.string bytes) => bytes.length + 1
  | .lit _ => 1
  | .nil => 1
  | .ptr d => uptoBulk d + 1
  | .slice elems spare => uptoBulkAll elems + uptoBulkAll spare + 1
  | .agg parts => uptoBulkAll parts + 1
  | .iface _ d => uptoBulk d + 1
  | .map entries => uptoBulkEntries entries + 1
  | .held _ => 1
def uptoBulkAll {H : Type} : List (DataW H) → Nat
  | [] => 0
  | d :: r => uptoBulk d + uptoBulkAll r
def uptoBulkEntries {H : Type} : List (Lit × DataW H) → Nat
  | [] => 0
  | x :: r => uptoBulkEntry x + uptoBulkEntries r
def uptoBulkEntry {H : Type} : Lit × DataW H → Nat
  | (.string bytes, d) => bytes.length + uptoBulk d + 1
  | (_, d) => uptoBulk d + 1
 end
def uptoSmall : (H : Type) → List (DataW H) → Bool := fun _ ds => decide (uptoBulkAll ds ≤ 1048576)
def OpenSpec.upto (s : _root_.Go.ChangeSpec) : _root_.Go.OpenSpec := { _root_.Go.OpenSpec.ofChange s with cond := some uptoSmall }

/-- 'amortcostlaw24.EntailChecks', WHERE WHAT IT READS IS OF BULK AT MOST 1048576: true; the input reads as it did. -/
def entailChecksUptoRow : OpenClaim := { program := "ytbbjgagpbffooaagreat", sum := "5e1cec638a8acafb9962e5c67e940b8dfc7444e08a3698dea779f6088102f5f2", func := "amortcost/amortcostlaw24.EntailChecks", spec := "entailChecks", unfollowed := true, recurses := true, apart := false, narrowed := true }
def EntailChecksUptoSaid : Prop := entailChecksUptoRow.holds Tryz.pinned (OpenSpec.upto entailChecksSpec)

/-- 'amortcostlaw24.EntailCombines', WHERE WHAT IT READS IS OF BULK AT MOST 1048576: true; the input reads as it did. -/
def entailCombinesUptoRow : OpenClaim := { program := "ytbbjgagpbffooaagreat", sum := "5e1cec638a8acafb9962e5c67e940b8dfc7444e08a3698dea779f6088102f5f2", func := "amortcost/amortcostlaw24.EntailCombines", spec := "entailCombines", unfollowed := true, recurses := true, apart := false, narrowed := true }
def EntailCombinesUptoSaid : Prop := entailCombinesUptoRow.holds Tryz.pinned (OpenSpec.upto entailCombinesSpec)

/-- 'amortcostlaw24.EntailImplies', WHERE WHAT IT READS IS OF BULK AT MOST 1048576: true; the input reads as it did. -/
def entailImpliesUptoRow : OpenClaim := { program := "ytbbjgagpbffooaagreat", sum := "5e1cec638a8acafb9962e5c67e940b8dfc7444e08a3698dea779f6088102f5f2", func := "amortcost/amortcostlaw24.EntailImplies", spec := "entailImplies", unfollowed := true, recurses := true, apart := false, narrowed := true }
def EntailImpliesUptoSaid : Prop := entailImpliesUptoRow.holds Tryz.pinned (OpenSpec.upto entailImpliesSpec)

/-- 'amortcostlaw24.EntailGrows', WHERE WHAT IT READS IS OF BULK AT MOST 1048576: true; the input reads as it did. -/
def entailGrowsUptoRow : OpenClaim := { program := "ytbbjgagpbffooaagreat", sum := "5e1cec638a8acafb9962e5c67e940b8dfc7444e08a3698dea779f6088102f5f2", func := "amortcost/amortcostlaw24.EntailGrows", spec := "entailGrows", unfollowed := true, recurses := true, apart := false, narrowed := true }
def EntailGrowsUptoSaid : Prop := entailGrowsUptoRow.holds Tryz.pinned (OpenSpec.upto entailGrowsSpec)

/-- 'amortcostlaw24.EntailAdds', WHERE WHAT IT READS IS OF BULK AT MOST 1048576: true; the input reads as it did. -/
def entailAddsUptoRow : OpenClaim := { program := "ytbbjgagpbffooaagreat", sum := "5e1cec638a8acafb9962e5c67e940b8dfc7444e08a3698dea779f6088102f5f2", func := "amortcost/amortcostlaw24.EntailAdds", spec := "entailAdds", unfollowed := true, recurses := true, apart := false, narrowed := true }
def EntailAddsUptoSaid : Prop := entailAddsUptoRow.holds Tryz.pinned (OpenSpec.upto entailAddsSpec)

/-- 'amortcostlaw24.EntailChains', WHERE WHAT IT READS IS OF BULK AT MOST 1048576: true; the input reads as it did. -/
def entailChainsUptoRow : OpenClaim := { program := "ytbbjgagpbffooaagreat", sum := "5e1cec638a8acafb9962e5c67e940b8dfc7444e08a3698dea779f6088102f5f2", func := "amortcost/amortcostlaw24.EntailChains", spec := "entailChains", unfollowed := true, recurses := true, apart := false, narrowed := true }
def EntailChainsUptoSaid : Prop := entailChainsUptoRow.holds Tryz.pinned (OpenSpec.upto entailChainsSpec)

/-- 'amortcostlaw24.EntailLimits', WHERE WHAT IT READS IS OF BULK AT MOST 1048576: true; the input reads as it did. -/
def entailLimitsUptoRow : OpenClaim := { program := "ytbbjgagpbffooaagreat", sum := "5e1cec638a8acafb9962e5c67e940b8dfc7444e08a3698dea779f6088102f5f2", func := "amortcost/amortcostlaw24.EntailLimits", spec := "entailLimits", unfollowed := true, recurses := true, apart := false, narrowed := true }
def EntailLimitsUptoSaid : Prop := entailLimitsUptoRow.holds Tryz.pinned (OpenSpec.upto entailLimitsSpec)

/-- 'amortcostlaw24.EntailLeast', WHERE WHAT IT READS IS OF BULK AT MOST 1048576: true; the input reads as it did. -/
def entailLeastUptoRow : OpenClaim := { program := "ytbbjgagpbffooaagreat", sum := "5e1cec638a8acafb9962e5c67e940b8dfc7444e08a3698dea779f6088102f5f2", func := "amortcost/amortcostlaw24.EntailLeast", spec := "entailLeast", unfollowed := true, recurses := true, apart := false, narrowed := true }
def EntailLeastUptoSaid : Prop := entailLeastUptoRow.holds Tryz.pinned (OpenSpec.upto entailLeastSpec)

/-- 'amortcostlaw24.EntailRefutes', WHERE WHAT IT READS IS OF BULK AT MOST 1048576: true; the input reads as it did. -/
def entailRefutesUptoRow : OpenClaim := { program := "ytbbjgagpbffooaagreat", sum := "5e1cec638a8acafb9962e5c67e940b8dfc7444e08a3698dea779f6088102f5f2", func := "amortcost/amortcostlaw24.EntailRefutes", spec := "entailRefutes", unfollowed := true, recurses := true, apart := false, narrowed := true }
def EntailRefutesUptoSaid : Prop := entailRefutesUptoRow.holds Tryz.pinned (OpenSpec.upto entailRefutesSpec)

/-- 'amortcostlaw24.EntailComplete', WHERE WHAT IT READS IS OF BULK AT MOST 1048576: true; the input reads as it did. -/
def entailCompleteUptoRow : OpenClaim := { program := "ytbbjgagpbffooaagreat", sum := "5e1cec638a8acafb9962e5c67e940b8dfc7444e08a3698dea779f6088102f5f2", func := "amortcost/amortcostlaw24.EntailComplete", spec := "entailComplete", unfollowed := true, recurses := true, apart := false, narrowed := true }
def EntailCompleteUptoSaid : Prop := entailCompleteUptoRow.holds Tryz.pinned (OpenSpec.upto entailCompleteSpec)

/-- 'amortcostlaw24.EntailHolds', WHERE WHAT IT READS IS OF BULK AT MOST 1048576: true; the input reads as it did. -/
def entailHoldsUptoRow : OpenClaim := { program := "ytbbjgagpbffooaagreat", sum := "5e1cec638a8acafb9962e5c67e940b8dfc7444e08a3698dea779f6088102f5f2", func := "amortcost/amortcostlaw24.EntailHolds", spec := "entailHolds", unfollowed := true, recurses := true, apart := false, narrowed := true }
def EntailHoldsUptoSaid : Prop := entailHoldsUptoRow.holds Tryz.pinned (OpenSpec.upto entailHoldsSpec)

/-- 'amortcostlaw24.EntailSound', WHERE WHAT IT READS IS OF BULK AT MOST 1048576: true; the input reads as it did. -/
def entailSoundUptoRow : OpenClaim := { program := "ytbbjgagpbffooaagreat", sum := "5e1cec638a8acafb9962e5c67e940b8dfc7444e08a3698dea779f6088102f5f2", func := "amortcost/amortcostlaw24.EntailSound", spec := "entailSound", unfollowed := true, recurses := true, apart := false, narrowed := true }
def EntailSoundUptoSaid : Prop := entailSoundUptoRow.holds Tryz.pinned (OpenSpec.upto entailSoundSpec)

end Rows
end Go.Proofs.YtbbjgagpbffooaaGreat
