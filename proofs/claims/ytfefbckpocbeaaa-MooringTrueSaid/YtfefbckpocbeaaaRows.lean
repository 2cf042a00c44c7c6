/-
  No cell of these rows narrows 'for every input' (looked for: loops, veiled, ifaces, maps, wideKeys, modest, calm, conditions, laid).
  DERIVED. THE GIVEN ROWS OF THIS SEAT. 6 by the template 'for every input the law returns true; each argument reads behind the call as it read before'; 0 by the template 'total and deterministic' (their statements: YtfefbckpocbeaaaTotals.lean).
  GIVEN WITH THE SEED: the statements are not yours to turn. If you find one false, say at which input.
  Laid BY PROGRAM, IN A SANDBOX (cutbox-rows.mjs): the forced cells as the released guide's own fill.sh prints them over the translation 820b6b3662539c76… (all of the seat's roots in one cut). By AI agents, Wed Nov 11 2026. No macro, syntax, notation, axiom, sorry.
-/
import Derived.Test.YtfefbckpocbeaaaChecked
import GoSem.Claim
import GoSem.ClaimJoined
import GoSem.ClaimMapViews
import Derived.JoinedTies
import Derived.KernelRfl
namespace Go.Proofs.Ytfefbckpocbeaaa
/- THE CELL 'sum', in the pinned program and in every row, IS THE sha256 OF THE DUMP (.gsa) THAT YtfefbckpocbeaaaProg.lean LOADS. Nothing in Lean hashes anything: it is a label: what it is worth is what the hold of that sum in a sandbox is worth. -/
noncomputable def Try.pinned : Pinned := { name := "ytfefbckpocbeaaa", sum := "820b6b3662539c76f4b1a0d5b9fea2dc329cecf069f69134de1c8c28d41e87c4", checked := Try.checked }
namespace Rows
def none {H : Type} : Left H := { results := [], args := [] }

/-- 'seamarklaw15.MooringRadius': WHATEVER THE INPUT: true; the input reads as it did. -/
def mooringRadiusSpec : ChangeSpec := { name := "mooringRadius", fn := fun _ => fun
  | [d1, d2] => { results := [.lit (.bool true)], args := [d1, d2] }
  | _ => none }
def mooringRadiusRow : OpenClaim := { program := "ytfefbckpocbeaaa", sum := "820b6b3662539c76f4b1a0d5b9fea2dc329cecf069f69134de1c8c28d41e87c4", func := "seamark/seamarklaw15.MooringRadius", spec := "mooringRadius", unfollowed := true, recurses := true, apart := false }
def MooringRadiusSaid : Prop := mooringRadiusRow.holds Try.pinned (OpenSpec.ofChange mooringRadiusSpec)

/-- ITS FALSE NEIGHBOUR: 'it returns false'. Refute it at one input. -/
def mooringRadiusWrong : ChangeSpec := { name := "mooringRadius", fn := fun _ => fun
  | [d1, d2] => { results := [.lit (.bool false)], args := [d1, d2] }
  | _ => none }
def MooringRadiusWrongFalsely : Prop := mooringRadiusRow.holds Try.pinned (OpenSpec.ofChange mooringRadiusWrong)

/-- 'seamarklaw15.MooringWider': WHATEVER THE INPUT: true; the input reads as it did. -/
def mooringWiderSpec : ChangeSpec := { name := "mooringWider", fn := fun _ => fun
  | [d1, d2, d3, d4, d5, d6] => { results := [.lit (.bool true)], args := [d1, d2, d3, d4, d5, d6] }
  | _ => none }
def mooringWiderRow : OpenClaim := { program := "ytfefbckpocbeaaa", sum := "820b6b3662539c76f4b1a0d5b9fea2dc329cecf069f69134de1c8c28d41e87c4", func := "seamark/seamarklaw15.MooringWider", spec := "mooringWider", unfollowed := true, recurses := true, apart := false }
def MooringWiderSaid : Prop := mooringWiderRow.holds Try.pinned (OpenSpec.ofChange mooringWiderSpec)

/-- ITS FALSE NEIGHBOUR: 'it returns false'. Refute it at one input. -/
def mooringWiderWrong : ChangeSpec := { name := "mooringWider", fn := fun _ => fun
  | [d1, d2, d3, d4, d5, d6] => { results := [.lit (.bool false)], args := [d1, d2, d3, d4, d5, d6] }
  | _ => none }
def MooringWiderWrongFalsely : Prop := mooringWiderRow.holds Try.pinned (OpenSpec.ofChange mooringWiderWrong)

/-- 'seamarklaw15.MooringChain': WHATEVER THE INPUT: true; the input reads as it did. -/
def mooringChainSpec : ChangeSpec := { name := "mooringChain", fn := fun _ => fun
  | [d1, d2, d3, d4, d5] => { results := [.lit (.bool true)], args := [d1, d2, d3, d4, d5] }
  | _ => none }
def mooringChainRow : OpenClaim := { program := "ytfefbckpocbeaaa", sum := "820b6b3662539c76f4b1a0d5b9fea2dc329cecf069f69134de1c8c28d41e87c4", func := "seamark/seamarklaw15.MooringChain", spec := "mooringChain", unfollowed := true, recurses := true, apart := false }
def MooringChainSaid : Prop := mooringChainRow.holds Try.pinned (OpenSpec.ofChange mooringChainSpec)

/-- ITS FALSE NEIGHBOUR: 'it returns false'. Refute it at one input. -/
def mooringChainWrong : ChangeSpec := { name := "mooringChain", fn := fun _ => fun
  | [d1, d2, d3, d4, d5] => { results := [.lit (.bool false)], args := [d1, d2, d3, d4, d5] }
  | _ => none }
def MooringChainWrongFalsely : Prop := mooringChainRow.holds Try.pinned (OpenSpec.ofChange mooringChainWrong)

/-- 'seamarklaw15.MooringAllows': WHATEVER THE INPUT: true; the input reads as it did. -/
def mooringAllowsSpec : ChangeSpec := { name := "mooringAllows", fn := fun _ => fun
  | [d1, d2, d3, d4, d5] => { results := [.lit (.bool true)], args := [d1, d2, d3, d4, d5] }
  | _ => none }
def mooringAllowsRow : OpenClaim := { program := "ytfefbckpocbeaaa", sum := "820b6b3662539c76f4b1a0d5b9fea2dc329cecf069f69134de1c8c28d41e87c4", func := "seamark/seamarklaw15.MooringAllows", spec := "mooringAllows", unfollowed := true, recurses := true, apart := false }
def MooringAllowsSaid : Prop := mooringAllowsRow.holds Try.pinned (OpenSpec.ofChange mooringAllowsSpec)

/-- ITS FALSE NEIGHBOUR: 'it returns false'. Refute it at one input. -/
def mooringAllowsWrong : ChangeSpec := { name := "mooringAllows", fn := fun _ => fun
  | [d1, d2, d3, d4, d5] => { results := [.lit (.bool false)], args := [d1, d2, d3, d4, d5] }
  | _ => none }
def MooringAllowsWrongFalsely : Prop := mooringAllowsRow.holds Try.pinned (OpenSpec.ofChange mooringAllowsWrong)

/-- 'seamarklaw15.MooringLow': WHATEVER THE INPUT: true; the input reads as it did. -/
def mooringLowSpec : ChangeSpec := { name := "mooringLow", fn := fun _ => fun
  | [d1, d2, d3, d4] => { results := [.lit (.bool true)], args := [d1, d2, d3, d4] }
  | _ => none }
def mooringLowRow : OpenClaim := { program := "ytfefbckpocbeaaa", sum := "820b6b3662539c76f4b1a0d5b9fea2dc329cecf069f69134de1c8c28d41e87c4", func := "seamark/seamarklaw15.MooringLow", spec := "mooringLow", unfollowed := true, recurses := true, apart := false }
def MooringLowSaid : Prop := mooringLowRow.holds Try.pinned (OpenSpec.ofChange mooringLowSpec)

/-- ITS FALSE NEIGHBOUR: 'it returns false'. Refute it at one input. -/
def mooringLowWrong : ChangeSpec := { name := "mooringLow", fn := fun _ => fun
  | [d1, d2, d3, d4] => { results := [.lit (.bool false)], args := [d1, d2, d3, d4] }
  | _ => none }
def MooringLowWrongFalsely : Prop := mooringLowRow.holds Try.pinned (OpenSpec.ofChange mooringLowWrong)

/-- 'seamarklaw15.MooringTrue': WHATEVER THE INPUT: true; the input reads as it did. -/
def mooringTrueSpec : ChangeSpec := { name := "mooringTrue", fn := fun _ => fun
  | [d1, d2, d3, d4] => { results := [.lit (.bool true)], args := [d1, d2, d3, d4] }
  | _ => none }
def mooringTrueRow : OpenClaim := { program := "ytfefbckpocbeaaa", sum := "820b6b3662539c76f4b1a0d5b9fea2dc329cecf069f69134de1c8c28d41e87c4", func := "seamark/seamarklaw15.MooringTrue", spec := "mooringTrue", unfollowed := true, recurses := true, apart := false }
def MooringTrueSaid : Prop := mooringTrueRow.holds Try.pinned (OpenSpec.ofChange mooringTrueSpec)

/-- ITS FALSE NEIGHBOUR: 'it returns false'. Refute it at one input. -/
def mooringTrueWrong : ChangeSpec := { name := "mooringTrue", fn := fun _ => fun
  | [d1, d2, d3, d4] => { results := [.lit (.bool false)], args := [d1, d2, d3, d4] }
  | _ => none }
def MooringTrueWrongFalsely : Prop := mooringTrueRow.holds Try.pinned (OpenSpec.ofChange mooringTrueWrong)

/- THE SECOND FORM. 'bulk': how many values and letters a reading holds, each counted each time it is reached (what is shared counts as often as it is met; a slice's spare places count too). A statement '..UptoSaid' is the law's where the arguments, and the package variables that the reading takes, are together of bulk at most 1048576: NARROWER than '..Said'. Prove '..Said' where nothing that the law and all that it calls make is longer than what came in: it says more and counts as full. Else prove '..UptoSaid'. A law counts once. -/
mutual
def uptoBulk {H : Type} : DataW H → Nat
  | .lit (.string bytes) => bytes.length + 1
  | .lit _ => 1
  | .nil => 1
  | .ptr d => uptoBulk d + 1
  | .slice elems spare => uptoBulkAll elems + uptoBulkAll spare + 1
  | .agg parts => uptoBulkAll parts + 1
  | .iface _ d => uptoBulk d + 1
  | .map entries => uptoBulkEntries entries + 1
  | .held _ => 1
def uptoBulkAll {H : Type} : List (DataW H) → Nat
  | [] => 0
  | d :: r => uptoBulk d + uptoBulkAll r
def uptoBulkEntries {H : Type} : List (Lit × DataW H) → Nat
  | [] => 0
  | x :: r => uptoBulkEntry x + uptoBulkEntries r
def uptoBulkEntry {H : Type} : Lit × DataW H → Nat
  | (.string bytes, d) => bytes.length + uptoBulk d + 1
  | (_, d) => uptoBulk d + 1
 end
def uptoSmall : (H : Type) → List (DataW H) → Bool := fun _ ds => decide (uptoBulkAll ds ≤ 1048576)
def OpenSpec.upto (s : _root_.Go.ChangeSpec) : _root_.Go.OpenSpec := { _root_.Go.OpenSpec.ofChange s with cond := some uptoSmall }

/-- 'seamarklaw15.MooringRadius', WHERE WHAT IT READS IS OF BULK AT MOST 1048576: true; the input reads as it did. -/
def mooringRadiusUptoRow : OpenClaim := { program := "ytfefbckpocbeaaa", sum := "820b6b3662539c76f4b1a0d5b9fea2dc329cecf069f69134de1c8c28d41e87c4", func := "seamark/seamarklaw15.MooringRadius", spec := "mooringRadius", unfollowed := true, recurses := true, apart := false, narrowed := true }
def MooringRadiusUptoSaid : Prop := mooringRadiusUptoRow.holds Try.pinned (OpenSpec.upto mooringRadiusSpec)

/-- 'seamarklaw15.MooringWider', WHERE WHAT IT READS IS OF BULK AT MOST 1048576: true; the input reads as it did. -/
def mooringWiderUptoRow : OpenClaim := { program := "ytfefbckpocbeaaa", sum := "820b6b3662539c76f4b1a0d5b9fea2dc329cecf069f69134de1c8c28d41e87c4", func := "seamark/seamarklaw15.MooringWider", spec := "mooringWider", unfollowed := true, recurses := true, apart := false, narrowed := true }
def MooringWiderUptoSaid : Prop := mooringWiderUptoRow.holds Try.pinned (OpenSpec.upto mooringWiderSpec)

/-- 'seamarklaw15.MooringChain', WHERE WHAT IT READS IS OF BULK AT MOST 1048576: true; the input reads as it did. -/
def mooringChainUptoRow : OpenClaim := { program := "ytfefbckpocbeaaa", sum := "820b6b3662539c76f4b1a0d5b9fea2dc329cecf069f69134de1c8c28d41e87c4", func := "seamark/seamarklaw15.MooringChain", spec := "mooringChain", unfollowed := true, recurses := true, apart := false, narrowed := true }
def MooringChainUptoSaid : Prop := mooringChainUptoRow.holds Try.pinned (OpenSpec.upto mooringChainSpec)

/-- 'seamarklaw15.MooringAllows', WHERE WHAT IT READS IS OF BULK AT MOST 1048576: true; the input reads as it did. -/
def mooringAllowsUptoRow : OpenClaim := { program := "ytfefbckpocbeaaa", sum := "820b6b3662539c76f4b1a0d5b9fea2dc329cecf069f69134de1c8c28d41e87c4", func := "seamark/seamarklaw15.MooringAllows", spec := "mooringAllows", unfollowed := true, recurses := true, apart := false, narrowed := true }
def MooringAllowsUptoSaid : Prop := mooringAllowsUptoRow.holds Try.pinned (OpenSpec.upto mooringAllowsSpec)

/-- 'seamarklaw15.MooringLow', WHERE WHAT IT READS IS OF BULK AT MOST 1048576: true; the input reads as it did. -/
def mooringLowUptoRow : OpenClaim := { program := "ytfefbckpocbeaaa", sum := "820b6b3662539c76f4b1a0d5b9fea2dc329cecf069f69134de1c8c28d41e87c4", func := "seamark/seamarklaw15.MooringLow", spec := "mooringLow", unfollowed := true, recurses := true, apart := false, narrowed := true }
def MooringLowUptoSaid : Prop := mooringLowUptoRow.holds Try.pinned (OpenSpec.upto mooringLowSpec)

/-- 'seamarklaw15.MooringTrue', WHERE WHAT IT READS IS OF BULK AT MOST 1048576: true; the input reads as it did. -/
def mooringTrueUptoRow : OpenClaim := { program := "ytfefbckpocbeaaa", sum := "820b6b3662539c76f4b1a0d5b9fea2dc329cecf069f69134de1c8c28d41e87c4", func := "seamark/seamarklaw15.MooringTrue", spec := "mooringTrue", unfollowed := true, recurses := true, apart := false, narrowed := true }
def MooringTrueUptoSaid : Prop := mooringTrueUptoRow.holds Try.pinned (OpenSpec.upto mooringTrueSpec)

end Rows
end Go.Proofs.Ytfefbckpocbeaaa
