/-
  No cell of these rows narrows 'for every input' (looked for: loops, veiled, ifaces, maps, wideKeys, modest, calm, conditions, laid).
  DERIVED. THE GIVEN ROWS OF THIS SEAT. 7 by the template 'for every input the law returns true; each argument reads behind the call as it read before'; 0 by the template 'total and deterministic' (their statements: YtinfmmofcadjgaaTotals.lean).
  GIVEN WITH THE SEED: the statements are not yours to turn. If you find one false, say at which input.
  Laid BY PROGRAM, IN A SANDBOX (cutbox-rows.mjs): the forced cells as the released guide's own fill.sh prints them over the translation 1ae0a75905e591c7… (all of the seat's roots in one cut). By AI agents, Wed Nov 11 2026. No macro, syntax, notation, axiom, sorry.
-/
import Derived.Test.YtinfmmofcadjgaaChecked
import GoSem.Claim
import GoSem.ClaimJoined
import GoSem.ClaimMapViews
import Derived.JoinedTies
import Derived.KernelRfl
namespace Go.Proofs.Ytinfmmofcadjgaa
/- THE CELL 'sum', in the pinned program and in every row, IS THE sha256 OF THE DUMP (.gsa) THAT YtinfmmofcadjgaaProg.lean LOADS. Nothing in Lean hashes anything: it is a label: what it is worth is what the hold of that sum in a sandbox is worth. -/
noncomputable def Try.pinned : Pinned := { name := "ytinfmmofcadjgaa", sum := "1ae0a75905e591c7ad9d454b6134bc75306f42c95934528e00fa14374043e6b1", checked := Try.checked }
namespace Rows
def none {H : Type} : Left H := { results := [], args := [] }

/-- 'seamarklaw38.PassageTimes': WHATEVER THE INPUT: true; the input reads as it did. -/
def passageTimesSpec : ChangeSpec := { name := "passageTimes", fn := fun _ => fun
  | [d1, d2, d3] => { results := [.lit (.bool true)], args := [d1, d2, d3] }
  | _ => none }
def passageTimesRow : OpenClaim := { program := "ytinfmmofcadjgaa", sum := "1ae0a75905e591c7ad9d454b6134bc75306f42c95934528e00fa14374043e6b1", func := "seamark/seamarklaw38.PassageTimes", spec := "passageTimes", unfollowed := true, recurses := true, apart := false }
def PassageTimesSaid : Prop := passageTimesRow.holds Try.pinned (OpenSpec.ofChange passageTimesSpec)

/-- ITS FALSE NEIGHBOUR: 'it returns false'. Refute it at one input. -/
def passageTimesWrong : ChangeSpec := { name := "passageTimes", fn := fun _ => fun
  | [d1, d2, d3] => { results := [.lit (.bool false)], args := [d1, d2, d3] }
  | _ => none }
def PassageTimesWrongFalsely : Prop := passageTimesRow.holds Try.pinned (OpenSpec.ofChange passageTimesWrong)

/-- 'seamarklaw38.PassageRest': WHATEVER THE INPUT: true; the input reads as it did. -/
def passageRestSpec : ChangeSpec := { name := "passageRest", fn := fun _ => fun
  | [d1, d2, d3] => { results := [.lit (.bool true)], args := [d1, d2, d3] }
  | _ => none }
def passageRestRow : OpenClaim := { program := "ytinfmmofcadjgaa", sum := "1ae0a75905e591c7ad9d454b6134bc75306f42c95934528e00fa14374043e6b1", func := "seamark/seamarklaw38.PassageRest", spec := "passageRest", unfollowed := true, recurses := true, apart := false }
def PassageRestSaid : Prop := passageRestRow.holds Try.pinned (OpenSpec.ofChange passageRestSpec)

/-- ITS FALSE NEIGHBOUR: 'it returns false'. Refute it at one input. -/
def passageRestWrong : ChangeSpec := { name := "passageRest", fn := fun _ => fun
  | [d1, d2, d3] => { results := [.lit (.bool false)], args := [d1, d2, d3] }
  | _ => none }
def PassageRestWrongFalsely : Prop := passageRestRow.holds Try.pinned (OpenSpec.ofChange passageRestWrong)

/-- 'seamarklaw38.PassageLater': WHATEVER THE INPUT: true; the input reads as it did. -/
def passageLaterSpec : ChangeSpec := { name := "passageLater", fn := fun _ => fun
  | [d1, d2, d3, d4] => { results := [.lit (.bool true)], args := [d1, d2, d3, d4] }
  | _ => none }
def passageLaterRow : OpenClaim := { program := "ytinfmmofcadjgaa", sum := "1ae0a75905e591c7ad9d454b6134bc75306f42c95934528e00fa14374043e6b1", func := "seamark/seamarklaw38.PassageLater", spec := "passageLater", unfollowed := true, recurses := true, apart := false }
def PassageLaterSaid : Prop := passageLaterRow.holds Try.pinned (OpenSpec.ofChange passageLaterSpec)

/-- ITS FALSE NEIGHBOUR: 'it returns false'. Refute it at one input. -/
def passageLaterWrong : ChangeSpec := { name := "passageLater", fn := fun _ => fun
  | [d1, d2, d3, d4] => { results := [.lit (.bool false)], args := [d1, d2, d3, d4] }
  | _ => none }
def PassageLaterWrongFalsely : Prop := passageLaterRow.holds Try.pinned (OpenSpec.ofChange passageLaterWrong)

/-- 'seamarklaw38.PassageMoved': WHATEVER THE INPUT: true; the input reads as it did. -/
def passageMovedSpec : ChangeSpec := { name := "passageMoved", fn := fun _ => fun
  | [d1, d2, d3, d4, d5] => { results := [.lit (.bool true)], args := [d1, d2, d3, d4, d5] }
  | _ => none }
def passageMovedRow : OpenClaim := { program := "ytinfmmofcadjgaa", sum := "1ae0a75905e591c7ad9d454b6134bc75306f42c95934528e00fa14374043e6b1", func := "seamark/seamarklaw38.PassageMoved", spec := "passageMoved", unfollowed := true, recurses := true, apart := false }
def PassageMovedSaid : Prop := passageMovedRow.holds Try.pinned (OpenSpec.ofChange passageMovedSpec)

/-- ITS FALSE NEIGHBOUR: 'it returns false'. Refute it at one input. -/
def passageMovedWrong : ChangeSpec := { name := "passageMoved", fn := fun _ => fun
  | [d1, d2, d3, d4, d5] => { results := [.lit (.bool false)], args := [d1, d2, d3, d4, d5] }
  | _ => none }
def PassageMovedWrongFalsely : Prop := passageMovedRow.holds Try.pinned (OpenSpec.ofChange passageMovedWrong)

/-- 'seamarklaw38.PassageBoxes': WHATEVER THE INPUT: true; the input reads as it did. -/
def passageBoxesSpec : ChangeSpec := { name := "passageBoxes", fn := fun _ => fun
  | [d1, d2, d3, d4, d5] => { results := [.lit (.bool true)], args := [d1, d2, d3, d4, d5] }
  | _ => none }
def passageBoxesRow : OpenClaim := { program := "ytinfmmofcadjgaa", sum := "1ae0a75905e591c7ad9d454b6134bc75306f42c95934528e00fa14374043e6b1", func := "seamark/seamarklaw38.PassageBoxes", spec := "passageBoxes", unfollowed := true, recurses := true, apart := false }
def PassageBoxesSaid : Prop := passageBoxesRow.holds Try.pinned (OpenSpec.ofChange passageBoxesSpec)

/-- ITS FALSE NEIGHBOUR: 'it returns false'. Refute it at one input. -/
def passageBoxesWrong : ChangeSpec := { name := "passageBoxes", fn := fun _ => fun
  | [d1, d2, d3, d4, d5] => { results := [.lit (.bool false)], args := [d1, d2, d3, d4, d5] }
  | _ => none }
def PassageBoxesWrongFalsely : Prop := passageBoxesRow.holds Try.pinned (OpenSpec.ofChange passageBoxesWrong)

/-- 'seamarklaw38.PassageNear': WHATEVER THE INPUT: true; the input reads as it did. -/
def passageNearSpec : ChangeSpec := { name := "passageNear", fn := fun _ => fun
  | [d1, d2, d3, d4, d5, d6] => { results := [.lit (.bool true)], args := [d1, d2, d3, d4, d5, d6] }
  | _ => none }
def passageNearRow : OpenClaim := { program := "ytinfmmofcadjgaa", sum := "1ae0a75905e591c7ad9d454b6134bc75306f42c95934528e00fa14374043e6b1", func := "seamark/seamarklaw38.PassageNear", spec := "passageNear", unfollowed := true, recurses := true, apart := false }
def PassageNearSaid : Prop := passageNearRow.holds Try.pinned (OpenSpec.ofChange passageNearSpec)

/-- ITS FALSE NEIGHBOUR: 'it returns false'. Refute it at one input. -/
def passageNearWrong : ChangeSpec := { name := "passageNear", fn := fun _ => fun
  | [d1, d2, d3, d4, d5, d6] => { results := [.lit (.bool false)], args := [d1, d2, d3, d4, d5, d6] }
  | _ => none }
def PassageNearWrongFalsely : Prop := passageNearRow.holds Try.pinned (OpenSpec.ofChange passageNearWrong)

/-- 'seamarklaw38.PassageZones': WHATEVER THE INPUT: true; the input reads as it did. -/
def passageZonesSpec : ChangeSpec := { name := "passageZones", fn := fun _ => fun
  | [d1, d2, d3, d4, d5] => { results := [.lit (.bool true)], args := [d1, d2, d3, d4, d5] }
  | _ => none }
def passageZonesRow : OpenClaim := { program := "ytinfmmofcadjgaa", sum := "1ae0a75905e591c7ad9d454b6134bc75306f42c95934528e00fa14374043e6b1", func := "seamark/seamarklaw38.PassageZones", spec := "passageZones", unfollowed := true, recurses := true, apart := false }
def PassageZonesSaid : Prop := passageZonesRow.holds Try.pinned (OpenSpec.ofChange passageZonesSpec)

/-- ITS FALSE NEIGHBOUR: 'it returns false'. Refute it at one input. -/
def passageZonesWrong : ChangeSpec := { name := "passageZones", fn := fun _ => fun
  | [d1, d2, d3, d4, d5] => { results := [.lit (.bool false)], args := [d1, d2, d3, d4, d5] }
  | _ => none }
def PassageZonesWrongFalsely : Prop := passageZonesRow.holds Try.pinned (OpenSpec.ofChange passageZonesWrong)

/- THE SECOND FORM. 'bulk': how many values and letters a reading holds, each counted each time it is reached (what is shared counts as often as it is met; a slice's spare places count too). A statement '..UptoSaid' is the law's where the arguments, and the package variables that the reading takes, are together of bulk at most 1048576: NARROWER than '..Said'. Prove '..Said' where nothing that the law and all that it calls make is longer than what came in: it says more and counts as full. Else prove '..UptoSaid'. A law counts once. -/
mutual
def uptoBulk {H : Type} : DataW H → Nat
  | .lit (.string bytes) => bytes.length + 1
  | .lit _ => 1
  | .nil => 1
  | .ptr d => uptoBulk d + 1
  | .slice elems spare => uptoBulkAll elems + uptoBulkAll spare + 1
  | .agg parts => uptoBulkAll parts + 1
  | .iface _ d => uptoBulk d + 1
  | .map entries => uptoBulkEntries entries + 1
  | .held _ => 1
def uptoBulkAll {H : Type} : List (DataW H) → Nat
  | [] => 0
  | d :: r => uptoBulk d + uptoBulkAll r
def uptoBulkEntries {H : Type} : List (Lit × DataW H) → Nat
  | [] => 0
  | x :: r => uptoBulkEntry x + uptoBulkEntries r
def uptoBulkEntry {H : Type} : Lit × DataW H → Nat
  | (.string bytes, d) => bytes.length + uptoBulk d + 1
  | (_, d) => uptoBulk d + 1
 end
def uptoSmall : (H : Type) → List (DataW H) → Bool := fun _ ds => decide (uptoBulkAll ds ≤ 1048576)
def OpenSpec.upto (s : _root_.Go.ChangeSpec) : _root_.Go.OpenSpec := { _root_.Go.OpenSpec.ofChange s with cond := some uptoSmall }

/-- 'seamarklaw38.PassageTimes', WHERE WHAT IT READS IS OF BULK AT MOST 1048576: true; the input reads as it did. -/
def passageTimesUptoRow : OpenClaim := { program := "ytinfmmofcadjgaa", sum := "1ae0a75905e591c7ad9d454b6134bc75306f42c95934528e00fa14374043e6b1", func := "seamark/seamarklaw38.PassageTimes", spec := "passageTimes", unfollowed := true, recurses := true, apart := false, narrowed := true }
def PassageTimesUptoSaid : Prop := passageTimesUptoRow.holds Try.pinned (OpenSpec.upto passageTimesSpec)

/-- 'seamarklaw38.PassageRest', WHERE WHAT IT READS IS OF BULK AT MOST 1048576: true; the input reads as it did. -/
def passageRestUptoRow : OpenClaim := { program := "ytinfmmofcadjgaa", sum := "1ae0a75905e591c7ad9d454b6134bc75306f42c95934528e00fa14374043e6b1", func := "seamark/seamarklaw38.PassageRest", spec := "passageRest", unfollowed := true, recurses := true, apart := false, narrowed := true }
def PassageRestUptoSaid : Prop := passageRestUptoRow.holds Try.pinned (OpenSpec.upto passageRestSpec)

/-- 'seamarklaw38.PassageLater', WHERE WHAT IT READS IS OF BULK AT MOST 1048576: true; the input reads as it did. -/
def passageLaterUptoRow : OpenClaim := { program := "ytinfmmofcadjgaa", sum := "1ae0a75905e591c7ad9d454b6134bc75306f42c95934528e00fa14374043e6b1", func := "seamark/seamarklaw38.PassageLater", spec := "passageLater", unfollowed := true, recurses := true, apart := false, narrowed := true }
def PassageLaterUptoSaid : Prop := passageLaterUptoRow.holds Try.pinned (OpenSpec.upto passageLaterSpec)

/-- 'seamarklaw38.PassageMoved', WHERE WHAT IT READS IS OF BULK AT MOST 1048576: true; the input reads as it did. -/
def passageMovedUptoRow : OpenClaim := { program := "ytinfmmofcadjgaa", sum := "1ae0a75905e591c7ad9d454b6134bc75306f42c95934528e00fa14374043e6b1", func := "seamark/seamarklaw38.PassageMoved", spec := "passageMoved", unfollowed := true, recurses := true, apart := false, narrowed := true }
def PassageMovedUptoSaid : Prop := passageMovedUptoRow.holds Try.pinned (OpenSpec.upto passageMovedSpec)

/-- 'seamarklaw38.PassageBoxes', WHERE WHAT IT READS IS OF BULK AT MOST 1048576: true; the input reads as it did. -/
def passageBoxesUptoRow : OpenClaim := { program := "ytinfmmofcadjgaa", sum := "1ae0a75905e591c7ad9d454b6134bc75306f42c95934528e00fa14374043e6b1", func := "seamark/seamarklaw38.PassageBoxes", spec := "passageBoxes", unfollowed := true, recurses := true, apart := false, narrowed := true }
def PassageBoxesUptoSaid : Prop := passageBoxesUptoRow.holds Try.pinned (OpenSpec.upto passageBoxesSpec)

/-- 'seamarklaw38.PassageNear', WHERE WHAT IT READS IS OF BULK AT MOST 1048576: true; the input reads as it did. -/
def passageNearUptoRow : OpenClaim := { program := "ytinfmmofcadjgaa", sum := "1ae0a75905e591c7ad9d454b6134bc75306f42c95934528e00fa14374043e6b1", func := "seamark/seamarklaw38.PassageNear", spec := "passageNear", unfollowed := true, recurses := true, apart := false, narrowed := true }
def PassageNearUptoSaid : Prop := passageNearUptoRow.holds Try.pinned (OpenSpec.upto passageNearSpec)

/-- 'seamarklaw38.PassageZones', WHERE WHAT IT READS IS OF BULK AT MOST 1048576: true; the input reads as it did. -/
def passageZonesUptoRow : OpenClaim := { program := "ytinfmmofcadjgaa", sum := "1ae0a75905e591c7ad9d454b6134bc75306f42c95934528e00fa14374043e6b1", func := "seamark/seamarklaw38.PassageZones", spec := "passageZones", unfollowed := true, recurses := true, apart := false, narrowed := true }
def PassageZonesUptoSaid : Prop := passageZonesUptoRow.holds Try.pinned (OpenSpec.upto passageZonesSpec)

end Rows
end Go.Proofs.Ytinfmmofcadjgaa
