/-
  No cell of these rows narrows 'for every input' (looked for: loops, veiled, ifaces, maps, wideKeys, modest, calm, conditions, laid).
  DERIVED. THE GIVEN ROWS OF THIS SEAT. 8 by the template 'for every input the law returns true; each argument reads behind the call as it read before'; 0 by the template 'total and deterministic' (their statements: YtldbejmgalhdaaaGreatTotals.lean).
  GIVEN WITH THE SEED: the statements are not yours to turn. If you find one false, say at which input.
  Laid BY PROGRAM, IN A SANDBOX (cutbox-rows.mjs): the forced cells as the released guide's own fill.sh prints them over the translation 694f5f37a684ae8a… (all of the seat's roots in one cut). By AI agents, Wed Nov 11 2026. No macro, syntax, notation, axiom, sorry.
-/
import Derived.Test.YtldbejmgalhdaaaGreatChecked
import GoSem.Claim
import GoSem.ClaimJoined
import GoSem.ClaimMapViews
import Derived.JoinedTies
import Derived.KernelRfl
namespace Go.Proofs.YtldbejmgalhdaaaGreat
/- THE CELL 'sum', in the pinned program and in every row, IS THE sha256 OF THE DUMP (.gsa) THAT YtldbejmgalhdaaaGreatProg.lean LOADS. Nothing in Lean hashes anything: it is a label: what it is worth is what the hold of that sum in a sandbox is worth. -/
noncomputable def Tryz.pinned : Pinned := { name := "ytldbejmgalhdaaagreat", sum := "694f5f37a684ae8a68c39344d7b6c0ef17a42984b81d29233b7e64e612a0852a", checked := Tryz.checked }
namespace Rows
def none {H : Type} : Left H := { results := [], args := [] }

/-- 'seamarklaw09.SurveyMatchesReference': WHATEVER THE INPUT: true; the input reads as it did. -/
def surveyMatchesReferenceSpec : ChangeSpec := { name := "surveyMatchesReference", fn := fun _ => fun
  | [d1, d2, d3, d4] => { results := [.lit (.bool true)], args := [d1, d2, d3, d4] }
  | _ => none }
def surveyMatchesReferenceRow : OpenClaim := { program := "ytldbejmgalhdaaagreat", sum := "694f5f37a684ae8a68c39344d7b6c0ef17a42984b81d29233b7e64e612a0852a", func := "seamark/seamarklaw09.SurveyMatchesReference", spec := "surveyMatchesReference", inPlace := ["slices.overlaps[seamark/api.Feature]", "slices.overlaps[seamark/api.Sounding]"], unfollowed := true, recurses := true, apart := false }
def SurveyMatchesReferenceSaid : Prop := surveyMatchesReferenceRow.holds Tryz.pinned (OpenSpec.ofChange surveyMatchesReferenceSpec)

/-- ITS FALSE NEIGHBOUR: 'it returns false'. Refute it at one input. -/
def surveyMatchesReferenceWrong : ChangeSpec := { name := "surveyMatchesReference", fn := fun _ => fun
  | [d1, d2, d3, d4] => { results := [.lit (.bool false)], args := [d1, d2, d3, d4] }
  | _ => none }
def SurveyMatchesReferenceWrongFalsely : Prop := surveyMatchesReferenceRow.holds Tryz.pinned (OpenSpec.ofChange surveyMatchesReferenceWrong)

/-- 'seamarklaw09.SurveyCurrent': WHATEVER THE INPUT: true; the input reads as it did. -/
def surveyCurrentSpec : ChangeSpec := { name := "surveyCurrent", fn := fun _ => fun
  | [d] => { results := [.lit (.bool true)], args := [d] }
  | _ => none }
def surveyCurrentRow : OpenClaim := { program := "ytldbejmgalhdaaagreat", sum := "694f5f37a684ae8a68c39344d7b6c0ef17a42984b81d29233b7e64e612a0852a", func := "seamark/seamarklaw09.SurveyCurrent", spec := "surveyCurrent", inPlace := ["slices.overlaps[seamark/api.Feature]", "slices.overlaps[seamark/api.Sounding]"], unfollowed := true, recurses := true, apart := false }
def SurveyCurrentSaid : Prop := surveyCurrentRow.holds Tryz.pinned (OpenSpec.ofChange surveyCurrentSpec)

/-- ITS FALSE NEIGHBOUR: 'it returns false'. Refute it at one input. -/
def surveyCurrentWrong : ChangeSpec := { name := "surveyCurrent", fn := fun _ => fun
  | [d] => { results := [.lit (.bool false)], args := [d] }
  | _ => none }
def SurveyCurrentWrongFalsely : Prop := surveyCurrentRow.holds Tryz.pinned (OpenSpec.ofChange surveyCurrentWrong)

/-- 'seamarklaw09.SurveyModel': WHATEVER THE INPUT: true; the input reads as it did. -/
def surveyModelSpec : ChangeSpec := { name := "surveyModel", fn := fun _ => fun
  | [d] => { results := [.lit (.bool true)], args := [d] }
  | _ => none }
def surveyModelRow : OpenClaim := { program := "ytldbejmgalhdaaagreat", sum := "694f5f37a684ae8a68c39344d7b6c0ef17a42984b81d29233b7e64e612a0852a", func := "seamark/seamarklaw09.SurveyModel", spec := "surveyModel", inPlace := ["slices.overlaps[seamark/api.Feature]", "slices.overlaps[seamark/api.Sounding]"], unfollowed := true, recurses := true, apart := false }
def SurveyModelSaid : Prop := surveyModelRow.holds Tryz.pinned (OpenSpec.ofChange surveyModelSpec)

/-- ITS FALSE NEIGHBOUR: 'it returns false'. Refute it at one input. -/
def surveyModelWrong : ChangeSpec := { name := "surveyModel", fn := fun _ => fun
  | [d] => { results := [.lit (.bool false)], args := [d] }
  | _ => none }
def SurveyModelWrongFalsely : Prop := surveyModelRow.holds Tryz.pinned (OpenSpec.ofChange surveyModelWrong)

/-- 'seamarklaw09.SurveyTrue': WHATEVER THE INPUT: true; the input reads as it did. -/
def surveyTrueSpec : ChangeSpec := { name := "surveyTrue", fn := fun _ => fun
  | [d1, d2, d3] => { results := [.lit (.bool true)], args := [d1, d2, d3] }
  | _ => none }
def surveyTrueRow : OpenClaim := { program := "ytldbejmgalhdaaagreat", sum := "694f5f37a684ae8a68c39344d7b6c0ef17a42984b81d29233b7e64e612a0852a", func := "seamark/seamarklaw09.SurveyTrue", spec := "surveyTrue", inPlace := ["slices.overlaps[seamark/api.Feature]", "slices.overlaps[seamark/api.Sounding]"], unfollowed := true, recurses := true, apart := false }
def SurveyTrueSaid : Prop := surveyTrueRow.holds Tryz.pinned (OpenSpec.ofChange surveyTrueSpec)

/-- ITS FALSE NEIGHBOUR: 'it returns false'. Refute it at one input. -/
def surveyTrueWrong : ChangeSpec := { name := "surveyTrue", fn := fun _ => fun
  | [d1, d2, d3] => { results := [.lit (.bool false)], args := [d1, d2, d3] }
  | _ => none }
def SurveyTrueWrongFalsely : Prop := surveyTrueRow.holds Tryz.pinned (OpenSpec.ofChange surveyTrueWrong)

/-- 'seamarklaw09.SurveyReplaced': WHATEVER THE INPUT: true; the input reads as it did. -/
def surveyReplacedSpec : ChangeSpec := { name := "surveyReplaced", fn := fun _ => fun
  | [d1, d2, d3, d4] => { results := [.lit (.bool true)], args := [d1, d2, d3, d4] }
  | _ => none }
def surveyReplacedRow : OpenClaim := { program := "ytldbejmgalhdaaagreat", sum := "694f5f37a684ae8a68c39344d7b6c0ef17a42984b81d29233b7e64e612a0852a", func := "seamark/seamarklaw09.SurveyReplaced", spec := "surveyReplaced", inPlace := ["slices.overlaps[seamark/api.Feature]", "slices.overlaps[seamark/api.Sounding]"], unfollowed := true, recurses := true, apart := false }
def SurveyReplacedSaid : Prop := surveyReplacedRow.holds Tryz.pinned (OpenSpec.ofChange surveyReplacedSpec)

/-- ITS FALSE NEIGHBOUR: 'it returns false'. Refute it at one input. -/
def surveyReplacedWrong : ChangeSpec := { name := "surveyReplaced", fn := fun _ => fun
  | [d1, d2, d3, d4] => { results := [.lit (.bool false)], args := [d1, d2, d3, d4] }
  | _ => none }
def SurveyReplacedWrongFalsely : Prop := surveyReplacedRow.holds Tryz.pinned (OpenSpec.ofChange surveyReplacedWrong)

/-- 'seamarklaw09.SurveyMerged': WHATEVER THE INPUT: true; the input reads as it did. -/
def surveyMergedSpec : ChangeSpec := { name := "surveyMerged", fn := fun _ => fun
  | [d1, d2, d3] => { results := [.lit (.bool true)], args := [d1, d2, d3] }
  | _ => none }
def surveyMergedRow : OpenClaim := { program := "ytldbejmgalhdaaagreat", sum := "694f5f37a684ae8a68c39344d7b6c0ef17a42984b81d29233b7e64e612a0852a", func := "seamark/seamarklaw09.SurveyMerged", spec := "surveyMerged", inPlace := ["slices.overlaps[seamark/api.Feature]", "slices.overlaps[seamark/api.Sounding]"], unfollowed := true, recurses := true, apart := false }
def SurveyMergedSaid : Prop := surveyMergedRow.holds Tryz.pinned (OpenSpec.ofChange surveyMergedSpec)

/-- ITS FALSE NEIGHBOUR: 'it returns false'. Refute it at one input. -/
def surveyMergedWrong : ChangeSpec := { name := "surveyMerged", fn := fun _ => fun
  | [d1, d2, d3] => { results := [.lit (.bool false)], args := [d1, d2, d3] }
  | _ => none }
def SurveyMergedWrongFalsely : Prop := surveyMergedRow.holds Tryz.pinned (OpenSpec.ofChange surveyMergedWrong)

/-- 'seamarklaw09.SurveyClashes': WHATEVER THE INPUT: true; the input reads as it did. -/
def surveyClashesSpec : ChangeSpec := { name := "surveyClashes", fn := fun _ => fun
  | [d1, d2, d3] => { results := [.lit (.bool true)], args := [d1, d2, d3] }
  | _ => none }
def surveyClashesRow : OpenClaim := { program := "ytldbejmgalhdaaagreat", sum := "694f5f37a684ae8a68c39344d7b6c0ef17a42984b81d29233b7e64e612a0852a", func := "seamark/seamarklaw09.SurveyClashes", spec := "surveyClashes", inPlace := ["slices.overlaps[seamark/api.Feature]", "slices.overlaps[seamark/api.Sounding]"], unfollowed := true, recurses := true, apart := false }
def SurveyClashesSaid : Prop := surveyClashesRow.holds Tryz.pinned (OpenSpec.ofChange surveyClashesSpec)

/-- ITS FALSE NEIGHBOUR: 'it returns false'. Refute it at one input. -/
def surveyClashesWrong : ChangeSpec := { name := "surveyClashes", fn := fun _ => fun
  | [d1, d2, d3] => { results := [.lit (.bool false)], args := [d1, d2, d3] }
  | _ => none }
def SurveyClashesWrongFalsely : Prop := surveyClashesRow.holds Tryz.pinned (OpenSpec.ofChange surveyClashesWrong)

/-- 'seamarklaw09.SurveyNew': WHATEVER THE INPUT: true; the input reads as it did. -/
def surveyNewSpec : ChangeSpec := { name := "surveyNew", fn := fun _ => fun
  | [d1, d2] => { results := [.lit (.bool true)], args := [d1, d2] }
  | _ => none }
def surveyNewRow : OpenClaim := { program := "ytldbejmgalhdaaagreat", sum := "694f5f37a684ae8a68c39344d7b6c0ef17a42984b81d29233b7e64e612a0852a", func := "seamark/seamarklaw09.SurveyNew", spec := "surveyNew", inPlace := ["slices.overlaps[seamark/api.Feature]", "slices.overlaps[seamark/api.Sounding]"], unfollowed := true, recurses := true, apart := false }
def SurveyNewSaid : Prop := surveyNewRow.holds Tryz.pinned (OpenSpec.ofChange surveyNewSpec)

/-- ITS FALSE NEIGHBOUR: 'it returns false'. Refute it at one input. -/
def surveyNewWrong : ChangeSpec := { name := "surveyNew", fn := fun _ => fun
  | [d1, d2] => { results := [.lit (.bool false)], args := [d1, d2] }
  | _ => none }
def SurveyNewWrongFalsely : Prop := surveyNewRow.holds Tryz.pinned (OpenSpec.ofChange surveyNewWrong)

/- THE SECOND FORM. 'bulk': how many values and letters a reading holds, each counted each time it is reached (what is shared counts as often as it is met; a slice's spare places count too). A statement '..UptoSaid' is the law's where the arguments, and the package variables that the reading takes, are together of bulk at most 1048576: NARROWER than '..Said'. Prove '..Said' where nothing that the law and all that it calls make is longer than what came in: it says more and counts as full. Else prove '..UptoSaid'. A law counts once. -/
mutual
def uptoBulk {H : Type} : DataW H → Nat
  | .lit (.string bytes) => bytes.length + 1
  | .lit _ => 1
  | .nil => 1
  | .ptr d => uptoBulk d + 1
  | .slice elems spare => uptoBulkAll elems + uptoBulkAll spare + 1
  | .agg parts => uptoBulkAll parts + 1
  | .iface _ d => uptoBulk d + 1
  | .map entries => uptoBulkEntries entries + 1
  | .held _ => 1
def uptoBulkAll {H : Type} : List (DataW H) → Nat
  | [] => 0
  | d :: r => uptoBulk d + uptoBulkAll r
def uptoBulkEntries {H : Type} : List (Lit × DataW H) → Nat
  | [] => 0
  | x :: r => uptoBulkEntry x + uptoBulkEntries r
def uptoBulkEntry {H : Type} : Lit × DataW H → Nat
  | (.string bytes, d) => bytes.length + uptoBulk d + 1
  | (_, d) => uptoBulk d + 1
 end
def uptoSmall : (H : Type) → List (DataW H) → Bool := fun _ ds => decide (uptoBulkAll ds ≤ 1048576)
def OpenSpec.upto (s : _root_.Go.ChangeSpec) : _root_.Go.OpenSpec := { _root_.Go.OpenSpec.ofChange s with cond := some uptoSmall }

/-- 'seamarklaw09.SurveyMatchesReference', WHERE WHAT IT READS IS OF BULK AT MOST 1048576: true; the input reads as it did. -/
def surveyMatchesReferenceUptoRow : OpenClaim := { program := "ytldbejmgalhdaaagreat", sum := "694f5f37a684ae8a68c39344d7b6c0ef17a42984b81d29233b7e64e612a0852a", func := "seamark/seamarklaw09.SurveyMatchesReference", spec := "surveyMatchesReference", inPlace := ["slices.overlaps[seamark/api.Feature]", "slices.overlaps[seamark/api.Sounding]"], unfollowed := true, recurses := true, apart := false, narrowed := true }
def SurveyMatchesReferenceUptoSaid : Prop := surveyMatchesReferenceUptoRow.holds Tryz.pinned (OpenSpec.upto surveyMatchesReferenceSpec)

/-- 'seamarklaw09.SurveyCurrent', WHERE WHAT IT READS IS OF BULK AT MOST 1048576: true; the input reads as it did. -/
def surveyCurrentUptoRow : OpenClaim := { program := "ytldbejmgalhdaaagreat", sum := "694f5f37a684ae8a68c39344d7b6c0ef17a42984b81d29233b7e64e612a0852a", func := "seamark/seamarklaw09.SurveyCurrent", spec := "surveyCurrent", inPlace := ["slices.overlaps[seamark/api.Feature]", "slices.overlaps[seamark/api.Sounding]"], unfollowed := true, recurses := true, apart := false, narrowed := true }
def SurveyCurrentUptoSaid : Prop := surveyCurrentUptoRow.holds Tryz.pinned (OpenSpec.upto surveyCurrentSpec)

/-- 'seamarklaw09.SurveyModel', WHERE WHAT IT READS IS OF BULK AT MOST 1048576: true; the input reads as it did. -/
def surveyModelUptoRow : OpenClaim := { program := "ytldbejmgalhdaaagreat", sum := "694f5f37a684ae8a68c39344d7b6c0ef17a42984b81d29233b7e64e612a0852a", func := "seamark/seamarklaw09.SurveyModel", spec := "surveyModel", inPlace := ["slices.overlaps[seamark/api.Feature]", "slices.overlaps[seamark/api.Sounding]"], unfollowed := true, recurses := true, apart := false, narrowed := true }
def SurveyModelUptoSaid : Prop := surveyModelUptoRow.holds Tryz.pinned (OpenSpec.upto surveyModelSpec)

/-- 'seamarklaw09.SurveyTrue', WHERE WHAT IT READS IS OF BULK AT MOST 1048576: true; the input reads as it did. -/
def surveyTrueUptoRow : OpenClaim := { program := "ytldbejmgalhdaaagreat", sum := "694f5f37a684ae8a68c39344d7b6c0ef17a42984b81d29233b7e64e612a0852a", func := "seamark/seamarklaw09.SurveyTrue", spec := "surveyTrue", inPlace := ["slices.overlaps[seamark/api.Feature]", "slices.overlaps[seamark/api.Sounding]"], unfollowed := true, recurses := true, apart := false, narrowed := true }
def SurveyTrueUptoSaid : Prop := surveyTrueUptoRow.holds Tryz.pinned (OpenSpec.upto surveyTrueSpec)

/-- 'seamarklaw09.SurveyReplaced', WHERE WHAT IT READS IS OF BULK AT MOST 1048576: true; the input reads as it did. -/
def surveyReplacedUptoRow : OpenClaim := { program := "ytldbejmgalhdaaagreat", sum := "694f5f37a684ae8a68c39344d7b6c0ef17a42984b81d29233b7e64e612a0852a", func := "seamark/seamarklaw09.SurveyReplaced", spec := "surveyReplaced", inPlace := ["slices.overlaps[seamark/api.Feature]", "slices.overlaps[seamark/api.Sounding]"], unfollowed := true, recurses := true, apart := false, narrowed := true }
def SurveyReplacedUptoSaid : Prop := surveyReplacedUptoRow.holds Tryz.pinned (OpenSpec.upto surveyReplacedSpec)

/-- 'seamarklaw09.SurveyMerged', WHERE WHAT IT READS IS OF BULK AT MOST 1048576: true; the input reads as it did. -/
def surveyMergedUptoRow : OpenClaim := { program := "ytldbejmgalhdaaagreat", sum := "694f5f37a684ae8a68c39344d7b6c0ef17a42984b81d29233b7e64e612a0852a", func := "seamark/seamarklaw09.SurveyMerged", spec := "surveyMerged", inPlace := ["slices.overlaps[seamark/api.Feature]", "slices.overlaps[seamark/api.Sounding]"], unfollowed := true, recurses := true, apart := false, narrowed := true }
def SurveyMergedUptoSaid : Prop := surveyMergedUptoRow.holds Tryz.pinned (OpenSpec.upto surveyMergedSpec)

/-- 'seamarklaw09.SurveyClashes', WHERE WHAT IT READS IS OF BULK AT MOST 1048576: true; the input reads as it did. -/
def surveyClashesUptoRow : OpenClaim := { program := "ytldbejmgalhdaaagreat", sum := "694f5f37a684ae8a68c39344d7b6c0ef17a42984b81d29233b7e64e612a0852a", func := "seamark/seamarklaw09.SurveyClashes", spec := "surveyClashes", inPlace := ["slices.overlaps[seamark/api.Feature]", "slices.overlaps[seamark/api.Sounding]"], unfollowed := true, recurses := true, apart := false, narrowed := true }
def SurveyClashesUptoSaid : Prop := surveyClashesUptoRow.holds Tryz.pinned (OpenSpec.upto surveyClashesSpec)

/-- 'seamarklaw09.SurveyNew', WHERE WHAT IT READS IS OF BULK AT MOST 1048576: true; the input reads as it did. -/
def surveyNewUptoRow : OpenClaim := { program := "ytldbejmgalhdaaagreat", sum := "694f5f37a684ae8a68c39344d7b6c0ef17a42984b81d29233b7e64e612a0852a", func := "seamark/seamarklaw09.SurveyNew", spec := "surveyNew", inPlace := ["slices.overlaps[seamark/api.Feature]", "slices.overlaps[seamark/api.Sounding]"], unfollowed := true, recurses := true, apart := false, narrowed := true }
def SurveyNewUptoSaid : Prop := surveyNewUptoRow.holds Tryz.pinned (OpenSpec.upto surveyNewSpec)

end Rows
end Go.Proofs.YtldbejmgalhdaaaGreat
