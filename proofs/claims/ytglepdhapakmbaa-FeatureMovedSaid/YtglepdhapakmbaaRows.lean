/-
  No cell of these rows narrows 'for every input' (looked for: loops, veiled, ifaces, maps, wideKeys, modest, calm, conditions, laid).
  DERIVED. THE GIVEN ROWS OF THIS SEAT. 7 by the template 'for every input the law returns true; each argument reads behind the call as it read before'; 0 by the template 'total and deterministic' (their statements: YtglepdhapakmbaaTotals.lean).
  GIVEN WITH THE SEED: the statements are not yours to turn. If you find one false, say at which input.
  Laid BY PROGRAM, IN A SANDBOX (cutbox-rows.mjs): the forced cells as the released guide's own fill.sh prints them over the translation 3959a96cbe8aa9db… (all of the seat's roots in one cut). By AI agents, Wed Nov 11 2026. No macro, syntax, notation, axiom, sorry.
-/
import Derived.Test.YtglepdhapakmbaaChecked
import GoSem.Claim
import GoSem.ClaimJoined
import GoSem.ClaimMapViews
import Derived.JoinedTies
import Derived.KernelRfl
namespace Go.Proofs.Ytglepdhapakmbaa
/- THE CELL 'sum', in the pinned program and in every row, IS THE sha256 OF THE DUMP (.gsa) THAT YtglepdhapakmbaaProg.lean LOADS. Nothing in Lean hashes anything: it is a label: what it is worth is what the hold of that sum in a sandbox is worth. -/
noncomputable def Try.pinned : Pinned := { name := "ytglepdhapakmbaa", sum := "3959a96cbe8aa9db043442ccc7f1564553f4b4869b71c7aa373a22a17f7a0acb", checked := Try.checked }
namespace Rows
def none {H : Type} : Left H := { results := [], args := [] }

/-- 'seamarklaw07.FeatureCovers': WHATEVER THE INPUT: true; the input reads as it did. -/
def featureCoversSpec : ChangeSpec := { name := "featureCovers", fn := fun _ => fun
  | [d1, d2, d3] => { results := [.lit (.bool true)], args := [d1, d2, d3] }
  | _ => none }
def featureCoversRow : OpenClaim := { program := "ytglepdhapakmbaa", sum := "3959a96cbe8aa9db043442ccc7f1564553f4b4869b71c7aa373a22a17f7a0acb", func := "seamark/seamarklaw07.FeatureCovers", spec := "featureCovers", unfollowed := true, recurses := true, apart := false }
def FeatureCoversSaid : Prop := featureCoversRow.holds Try.pinned (OpenSpec.ofChange featureCoversSpec)

/-- ITS FALSE NEIGHBOUR: 'it returns false'. Refute it at one input. -/
def featureCoversWrong : ChangeSpec := { name := "featureCovers", fn := fun _ => fun
  | [d1, d2, d3] => { results := [.lit (.bool false)], args := [d1, d2, d3] }
  | _ => none }
def FeatureCoversWrongFalsely : Prop := featureCoversRow.holds Try.pinned (OpenSpec.ofChange featureCoversWrong)

/-- 'seamarklaw07.FeatureHolds': WHATEVER THE INPUT: true; the input reads as it did. -/
def featureHoldsSpec : ChangeSpec := { name := "featureHolds", fn := fun _ => fun
  | [d1, d2, d3] => { results := [.lit (.bool true)], args := [d1, d2, d3] }
  | _ => none }
def featureHoldsRow : OpenClaim := { program := "ytglepdhapakmbaa", sum := "3959a96cbe8aa9db043442ccc7f1564553f4b4869b71c7aa373a22a17f7a0acb", func := "seamark/seamarklaw07.FeatureHolds", spec := "featureHolds", unfollowed := true, recurses := true, apart := false }
def FeatureHoldsSaid : Prop := featureHoldsRow.holds Try.pinned (OpenSpec.ofChange featureHoldsSpec)

/-- ITS FALSE NEIGHBOUR: 'it returns false'. Refute it at one input. -/
def featureHoldsWrong : ChangeSpec := { name := "featureHolds", fn := fun _ => fun
  | [d1, d2, d3] => { results := [.lit (.bool false)], args := [d1, d2, d3] }
  | _ => none }
def FeatureHoldsWrongFalsely : Prop := featureHoldsRow.holds Try.pinned (OpenSpec.ofChange featureHoldsWrong)

/-- 'seamarklaw07.FeatureStands': WHATEVER THE INPUT: true; the input reads as it did. -/
def featureStandsSpec : ChangeSpec := { name := "featureStands", fn := fun _ => fun
  | [d1, d2, d3, d4] => { results := [.lit (.bool true)], args := [d1, d2, d3, d4] }
  | _ => none }
def featureStandsRow : OpenClaim := { program := "ytglepdhapakmbaa", sum := "3959a96cbe8aa9db043442ccc7f1564553f4b4869b71c7aa373a22a17f7a0acb", func := "seamark/seamarklaw07.FeatureStands", spec := "featureStands", unfollowed := true, recurses := true, apart := false }
def FeatureStandsSaid : Prop := featureStandsRow.holds Try.pinned (OpenSpec.ofChange featureStandsSpec)

/-- ITS FALSE NEIGHBOUR: 'it returns false'. Refute it at one input. -/
def featureStandsWrong : ChangeSpec := { name := "featureStands", fn := fun _ => fun
  | [d1, d2, d3, d4] => { results := [.lit (.bool false)], args := [d1, d2, d3, d4] }
  | _ => none }
def FeatureStandsWrongFalsely : Prop := featureStandsRow.holds Try.pinned (OpenSpec.ofChange featureStandsWrong)

/-- 'seamarklaw07.FeatureLists': WHATEVER THE INPUT: true; the input reads as it did. -/
def featureListsSpec : ChangeSpec := { name := "featureLists", fn := fun _ => fun
  | [d1, d2, d3, d4] => { results := [.lit (.bool true)], args := [d1, d2, d3, d4] }
  | _ => none }
def featureListsRow : OpenClaim := { program := "ytglepdhapakmbaa", sum := "3959a96cbe8aa9db043442ccc7f1564553f4b4869b71c7aa373a22a17f7a0acb", func := "seamark/seamarklaw07.FeatureLists", spec := "featureLists", unfollowed := true, recurses := true, apart := false }
def FeatureListsSaid : Prop := featureListsRow.holds Try.pinned (OpenSpec.ofChange featureListsSpec)

/-- ITS FALSE NEIGHBOUR: 'it returns false'. Refute it at one input. -/
def featureListsWrong : ChangeSpec := { name := "featureLists", fn := fun _ => fun
  | [d1, d2, d3, d4] => { results := [.lit (.bool false)], args := [d1, d2, d3, d4] }
  | _ => none }
def FeatureListsWrongFalsely : Prop := featureListsRow.holds Try.pinned (OpenSpec.ofChange featureListsWrong)

/-- 'seamarklaw07.FeatureTouches': WHATEVER THE INPUT: true; the input reads as it did. -/
def featureTouchesSpec : ChangeSpec := { name := "featureTouches", fn := fun _ => fun
  | [d1, d2, d3] => { results := [.lit (.bool true)], args := [d1, d2, d3] }
  | _ => none }
def featureTouchesRow : OpenClaim := { program := "ytglepdhapakmbaa", sum := "3959a96cbe8aa9db043442ccc7f1564553f4b4869b71c7aa373a22a17f7a0acb", func := "seamark/seamarklaw07.FeatureTouches", spec := "featureTouches", unfollowed := true, recurses := true, apart := false }
def FeatureTouchesSaid : Prop := featureTouchesRow.holds Try.pinned (OpenSpec.ofChange featureTouchesSpec)

/-- ITS FALSE NEIGHBOUR: 'it returns false'. Refute it at one input. -/
def featureTouchesWrong : ChangeSpec := { name := "featureTouches", fn := fun _ => fun
  | [d1, d2, d3] => { results := [.lit (.bool false)], args := [d1, d2, d3] }
  | _ => none }
def FeatureTouchesWrongFalsely : Prop := featureTouchesRow.holds Try.pinned (OpenSpec.ofChange featureTouchesWrong)

/-- 'seamarklaw07.FeatureMoved': WHATEVER THE INPUT: true; the input reads as it did. -/
def featureMovedSpec : ChangeSpec := { name := "featureMoved", fn := fun _ => fun
  | [d1, d2, d3, d4] => { results := [.lit (.bool true)], args := [d1, d2, d3, d4] }
  | _ => none }
def featureMovedRow : OpenClaim := { program := "ytglepdhapakmbaa", sum := "3959a96cbe8aa9db043442ccc7f1564553f4b4869b71c7aa373a22a17f7a0acb", func := "seamark/seamarklaw07.FeatureMoved", spec := "featureMoved", unfollowed := true, recurses := true, apart := false }
def FeatureMovedSaid : Prop := featureMovedRow.holds Try.pinned (OpenSpec.ofChange featureMovedSpec)

/-- ITS FALSE NEIGHBOUR: 'it returns false'. Refute it at one input. -/
def featureMovedWrong : ChangeSpec := { name := "featureMoved", fn := fun _ => fun
  | [d1, d2, d3, d4] => { results := [.lit (.bool false)], args := [d1, d2, d3, d4] }
  | _ => none }
def FeatureMovedWrongFalsely : Prop := featureMovedRow.holds Try.pinned (OpenSpec.ofChange featureMovedWrong)

/-- 'seamarklaw07.FeatureSame': WHATEVER THE INPUT: true; the input reads as it did. -/
def featureSameSpec : ChangeSpec := { name := "featureSame", fn := fun _ => fun
  | [d1, d2, d3, d4] => { results := [.lit (.bool true)], args := [d1, d2, d3, d4] }
  | _ => none }
def featureSameRow : OpenClaim := { program := "ytglepdhapakmbaa", sum := "3959a96cbe8aa9db043442ccc7f1564553f4b4869b71c7aa373a22a17f7a0acb", func := "seamark/seamarklaw07.FeatureSame", spec := "featureSame", unfollowed := true, recurses := true, apart := false }
def FeatureSameSaid : Prop := featureSameRow.holds Try.pinned (OpenSpec.ofChange featureSameSpec)

/-- ITS FALSE NEIGHBOUR: 'it returns false'. Refute it at one input. -/
def featureSameWrong : ChangeSpec := { name := "featureSame", fn := fun _ => fun
  | [d1, d2, d3, d4] => { results := [.lit (.bool false)], args := [d1, d2, d3, d4] }
  | _ => none }
def FeatureSameWrongFalsely : Prop := featureSameRow.holds Try.pinned (OpenSpec.ofChange featureSameWrong)

/- THE SECOND FORM. 'bulk': how many values and letters a reading holds, each counted each time it is reached (what is shared counts as often as it is met; a slice's spare places count too). A statement '..UptoSaid' is the law's where the arguments, and the package variables that the reading takes, are together of bulk at most 1048576: NARROWER than '..Said'. Prove '..Said' where nothing that the law and all that it calls make is longer than what came in: it says more and counts as full. Else prove '..UptoSaid'. A law counts once. -/
mutual
def uptoBulk {H : Type} : DataW H → Nat
  | .lit (.string bytes) => bytes.length + 1
  | .lit _ => 1
  | .nil => 1
  | .ptr d => uptoBulk d + 1
  | .slice elems spare => uptoBulkAll elems + uptoBulkAll spare + 1
  | .agg parts => uptoBulkAll parts + 1
  | .iface _ d => uptoBulk d + 1
  | .map entries => uptoBulkEntries entries + 1
  | .held _ => 1
def uptoBulkAll {H : Type} : List (DataW H) → Nat
  | [] => 0
  | d :: r => uptoBulk d + uptoBulkAll r
def uptoBulkEntries {H : Type} : List (Lit × DataW H) → Nat
  | [] => 0
  | x :: r => uptoBulkEntry x + uptoBulkEntries r
def uptoBulkEntry {H : Type} : Lit × DataW H → Nat
  | (.string bytes, d) => bytes.length + uptoBulk d + 1
  | (_, d) => uptoBulk d + 1
 end
def uptoSmall : (H : Type) → List (DataW H) → Bool := fun _ ds => decide (uptoBulkAll ds ≤ 1048576)
def OpenSpec.upto (s : _root_.Go.ChangeSpec) : _root_.Go.OpenSpec := { _root_.Go.OpenSpec.ofChange s with cond := some uptoSmall }

/-- 'seamarklaw07.FeatureCovers', WHERE WHAT IT READS IS OF BULK AT MOST 1048576: true; the input reads as it did. -/
def featureCoversUptoRow : OpenClaim := { program := "ytglepdhapakmbaa", sum := "3959a96cbe8aa9db043442ccc7f1564553f4b4869b71c7aa373a22a17f7a0acb", func := "seamark/seamarklaw07.FeatureCovers", spec := "featureCovers", unfollowed := true, recurses := true, apart := false, narrowed := true }
def FeatureCoversUptoSaid : Prop := featureCoversUptoRow.holds Try.pinned (OpenSpec.upto featureCoversSpec)

/-- 'seamarklaw07.FeatureHolds', WHERE WHAT IT READS IS OF BULK AT MOST 1048576: true; the input reads as it did. -/
def featureHoldsUptoRow : OpenClaim := { program := "ytglepdhapakmbaa", sum := "3959a96cbe8aa9db043442ccc7f1564553f4b4869b71c7aa373a22a17f7a0acb", func := "seamark/seamarklaw07.FeatureHolds", spec := "featureHolds", unfollowed := true, recurses := true, apart := false, narrowed := true }
def FeatureHoldsUptoSaid : Prop := featureHoldsUptoRow.holds Try.pinned (OpenSpec.upto featureHoldsSpec)

/-- 'seamarklaw07.FeatureStands', WHERE WHAT IT READS IS OF BULK AT MOST 1048576: true; the input reads as it did. -/
def featureStandsUptoRow : OpenClaim := { program := "ytglepdhapakmbaa", sum := "3959a96cbe8aa9db043442ccc7f1564553f4b4869b71c7aa373a22a17f7a0acb", func := "seamark/seamarklaw07.FeatureStands", spec := "featureStands", unfollowed := true, recurses := true, apart := false, narrowed := true }
def FeatureStandsUptoSaid : Prop := featureStandsUptoRow.holds Try.pinned (OpenSpec.upto featureStandsSpec)

/-- 'seamarklaw07.FeatureLists', WHERE WHAT IT READS IS OF BULK AT MOST 1048576: true; the input reads as it did. -/
def featureListsUptoRow : OpenClaim := { program := "ytglepdhapakmbaa", sum := "3959a96cbe8aa9db043442ccc7f1564553f4b4869b71c7aa373a22a17f7a0acb", func := "seamark/seamarklaw07.FeatureLists", spec := "featureLists", unfollowed := true, recurses := true, apart := false, narrowed := true }
def FeatureListsUptoSaid : Prop := featureListsUptoRow.holds Try.pinned (OpenSpec.upto featureListsSpec)

/-- 'seamarklaw07.FeatureTouches', WHERE WHAT IT READS IS OF BULK AT MOST 1048576: true; the input reads as it did. -/
def featureTouchesUptoRow : OpenClaim := { program := "ytglepdhapakmbaa", sum := "3959a96cbe8aa9db043442ccc7f1564553f4b4869b71c7aa373a22a17f7a0acb", func := "seamark/seamarklaw07.FeatureTouches", spec := "featureTouches", unfollowed := true, recurses := true, apart := false, narrowed := true }
def FeatureTouchesUptoSaid : Prop := featureTouchesUptoRow.holds Try.pinned (OpenSpec.upto featureTouchesSpec)

/-- 'seamarklaw07.FeatureMoved', WHERE WHAT IT READS IS OF BULK AT MOST 1048576: true; the input reads as it did. -/
def featureMovedUptoRow : OpenClaim := { program := "ytglepdhapakmbaa", sum := "3959a96cbe8aa9db043442ccc7f1564553f4b4869b71c7aa373a22a17f7a0acb", func := "seamark/seamarklaw07.FeatureMoved", spec := "featureMoved", unfollowed := true, recurses := true, apart := false, narrowed := true }
def FeatureMovedUptoSaid : Prop := featureMovedUptoRow.holds Try.pinned (OpenSpec.upto featureMovedSpec)

/-- 'seamarklaw07.FeatureSame', WHERE WHAT IT READS IS OF BULK AT MOST 1048576: true; the input reads as it did. -/
def featureSameUptoRow : OpenClaim := { program := "ytglepdhapakmbaa", sum := "3959a96cbe8aa9db043442ccc7f1564553f4b4869b71c7aa373a22a17f7a0acb", func := "seamark/seamarklaw07.FeatureSame", spec := "featureSame", unfollowed := true, recurses := true, apart := false, narrowed := true }
def FeatureSameUptoSaid : Prop := featureSameUptoRow.holds Try.pinned (OpenSpec.upto featureSameSpec)

end Rows
end Go.Proofs.Ytglepdhapakmbaa
