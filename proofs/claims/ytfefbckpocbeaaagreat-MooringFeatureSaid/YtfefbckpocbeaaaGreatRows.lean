/-
  No cell of these rows narrows 'for every input' (looked for: loops, veiled, ifaces, maps, wideKeys, modest, calm, conditions, laid).
  DERIVED. THE GIVEN ROWS OF THIS SEAT. 2 by the template 'for every input the law returns true; each argument reads behind the call as it read before'; 0 by the template 'total and deterministic' (their statements: YtfefbckpocbeaaaGreatTotals.lean).
  GIVEN WITH THE SEED: the statements are not yours to turn. If you find one false, say at which input.
  Laid BY PROGRAM, IN A SANDBOX (cutbox-rows.mjs): the forced cells as the released guide's own fill.sh prints them over the translation 3dcbe24d82ee3e9f… (all of the seat's roots in one cut). By AI agents, Wed Nov 11 2026. No macro, syntax, notation, axiom, sorry.
-/
import Derived.Test.YtfefbckpocbeaaaGreatChecked
import GoSem.Claim
import GoSem.ClaimJoined
import GoSem.ClaimMapViews
import Derived.JoinedTies
import Derived.KernelRfl
namespace Go.Proofs.YtfefbckpocbeaaaGreat
/- THE CELL 'sum', in the pinned program and in every row, IS THE sha256 OF THE DUMP (.gsa) THAT YtfefbckpocbeaaaGreatProg.lean LOADS. Nothing in Lean hashes anything: it is a label: what it is worth is what the hold of that sum in a sandbox is worth. -/
noncomputable def Tryz.pinned : Pinned := { name := "ytfefbckpocbeaaagreat", sum := "3dcbe24d82ee3e9fae65d1397c96c377a17127ab04e6b0652c1b0ec0737c55da", checked := Tryz.checked }
namespace Rows
def none {H : Type} : Left H := { results := [], args := [] }

/-- 'seamarklaw15.MooringMatchesReference': WHATEVER THE INPUT: true; the input reads as it did. -/
def mooringMatchesReferenceSpec : ChangeSpec := { name := "mooringMatchesReference", fn := fun _ => fun
  | [d1, d2, d3, d4, d5, d6, d7, d8] => { results := [.lit (.bool true)], args := [d1, d2, d3, d4, d5, d6, d7, d8] }
  | _ => none }
def mooringMatchesReferenceRow : OpenClaim := { program := "ytfefbckpocbeaaagreat", sum := "3dcbe24d82ee3e9fae65d1397c96c377a17127ab04e6b0652c1b0ec0737c55da", func := "seamark/seamarklaw15.MooringMatchesReference", spec := "mooringMatchesReference", unfollowed := true, recurses := true, apart := false }
def MooringMatchesReferenceSaid : Prop := mooringMatchesReferenceRow.holds Tryz.pinned (OpenSpec.ofChange mooringMatchesReferenceSpec)

/-- ITS FALSE NEIGHBOUR: 'it returns false'. Refute it at one input. -/
def mooringMatchesReferenceWrong : ChangeSpec := { name := "mooringMatchesReference", fn := fun _ => fun
  | [d1, d2, d3, d4, d5, d6, d7, d8] => { results := [.lit (.bool false)], args := [d1, d2, d3, d4, d5, d6, d7, d8] }
  | _ => none }
def MooringMatchesReferenceWrongFalsely : Prop := mooringMatchesReferenceRow.holds Tryz.pinned (OpenSpec.ofChange mooringMatchesReferenceWrong)

/-- 'seamarklaw15.MooringFeature': WHATEVER THE INPUT: true; the input reads as it did. -/
def mooringFeatureSpec : ChangeSpec := { name := "mooringFeature", fn := fun _ => fun
  | [d1, d2, d3, d4, d5] => { results := [.lit (.bool true)], args := [d1, d2, d3, d4, d5] }
  | _ => none }
def mooringFeatureRow : OpenClaim := { program := "ytfefbckpocbeaaagreat", sum := "3dcbe24d82ee3e9fae65d1397c96c377a17127ab04e6b0652c1b0ec0737c55da", func := "seamark/seamarklaw15.MooringFeature", spec := "mooringFeature", unfollowed := true, recurses := true, apart := false }
def MooringFeatureSaid : Prop := mooringFeatureRow.holds Tryz.pinned (OpenSpec.ofChange mooringFeatureSpec)

/-- ITS FALSE NEIGHBOUR: 'it returns false'. Refute it at one input. -/
def mooringFeatureWrong : ChangeSpec := { name := "mooringFeature", fn := fun _ => fun
  | [d1, d2, d3, d4, d5] => { results := [.lit (.bool false)], args := [d1, d2, d3, d4, d5] }
  | _ => none }
def MooringFeatureWrongFalsely : Prop := mooringFeatureRow.holds Tryz.pinned (OpenSpec.ofChange mooringFeatureWrong)

/- THE SECOND FORM. 'bulk': how many values and letters a reading holds, each counted each time it is reached (what is shared counts as often as it is met; a slice's spare places count too). A statement '..UptoSaid' is the law's where the arguments, and the package variables that the reading takes, are together of bulk at most 1048576: NARROWER than '..Said'. Prove '..Said' where nothing that the law and all that it calls make is longer than what came in: it says more and counts as full. Else prove '..UptoSaid'. A law counts once. -/
mutual
def uptoBulk {H : Type} : DataW H → Nat
  | .lit (.string bytes) => bytes.length + 1
  | .lit _ => 1
  | .nil => 1
  | .ptr d => uptoBulk d + 1
  | .slice elems spare => uptoBulkAll elems + uptoBulkAll spare + 1
  | .agg parts => uptoBulkAll parts + 1
  | .iface _ d => uptoBulk d + 1
  | .map entries => uptoBulkEntries entries + 1
  | .held _ => 1
def uptoBulkAll {H : Type} : List (DataW H) → Nat
  | [] => 0
  | d :: r => uptoBulk d + uptoBulkAll r
def uptoBulkEntries {H : Type} : List (Lit × DataW H) → Nat
  | [] => 0
  | x :: r => uptoBulkEntry x + uptoBulkEntries r
def uptoBulkEntry {H : Type} : Lit × DataW H → Nat
  | (.string bytes, d) => bytes.length + uptoBulk d + 1
  | (_, d) => uptoBulk d + 1
 end
def uptoSmall : (H : Type) → List (DataW H) → Bool := fun _ ds => decide (uptoBulkAll ds ≤ 1048576)
def OpenSpec.upto (s : _root_.Go.ChangeSpec) : _root_.Go.OpenSpec := { _root_.Go.OpenSpec.ofChange s with cond := some uptoSmall }

/-- 'seamarklaw15.MooringMatchesReference', WHERE WHAT IT READS IS OF BULK AT MOST 1048576: true; the input reads as it did. -/
def mooringMatchesReferenceUptoRow : OpenClaim := { program := "ytfefbckpocbeaaagreat", sum := "3dcbe24d82ee3e9fae65d1397c96c377a17127ab04e6b0652c1b0ec0737c55da", func := "seamark/seamarklaw15.MooringMatchesReference", spec := "mooringMatchesReference", unfollowed := true, recurses := true, apart := false, narrowed := true }
def MooringMatchesReferenceUptoSaid : Prop := mooringMatchesReferenceUptoRow.holds Tryz.pinned (OpenSpec.upto mooringMatchesReferenceSpec)

/-- 'seamarklaw15.MooringFeature', WHERE WHAT IT READS IS OF BULK AT MOST 1048576: true; the input reads as it did. -/
def mooringFeatureUptoRow : OpenClaim := { program := "ytfefbckpocbeaaagreat", sum := "3dcbe24d82ee3e9fae65d1397c96c377a17127ab04e6b0652c1b0ec0737c55da", func := "seamark/seamarklaw15.MooringFeature", spec := "mooringFeature", unfollowed := true, recurses := true, apart := false, narrowed := true }
def MooringFeatureUptoSaid : Prop := mooringFeatureUptoRow.holds Tryz.pinned (OpenSpec.upto mooringFeatureSpec)

end Rows
end Go.Proofs.YtfefbckpocbeaaaGreat
