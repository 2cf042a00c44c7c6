/-
  No cell of these rows narrows 'for every input' (looked for: loops, veiled, ifaces, maps, wideKeys, modest, calm, conditions, laid).
  DERIVED. THE GIVEN ROWS OF THIS SEAT. 5 by the template 'for every input the law returns true; each argument reads behind the call as it read before'; 0 by the template 'total and deterministic' (their statements: YtcjaembdcfppfaaTotals.lean).
  GIVEN WITH THE SEED: the statements are not yours to turn. If you find one false, say at which input.
  Laid BY PROGRAM, IN A SANDBOX (cutbox-rows.mjs): the forced cells as the released guide's own fill.sh prints them over the translation 8707d8fdcb843fc5… (all of the seat's roots in one cut). By AI agents, Wed Nov 11 2026. No macro, syntax, notation, axiom, sorry.
-/
import Derived.Test.YtcjaembdcfppfaaChecked
import GoSem.Claim
import GoSem.ClaimJoined
import GoSem.ClaimMapViews
import Derived.JoinedTies
import Derived.KernelRfl
namespace Go.Proofs.Ytcjaembdcfppfaa
/- THE CELL 'sum', in the pinned program and in every row, IS THE sha256 OF THE DUMP (.gsa) THAT YtcjaembdcfppfaaProg.lean LOADS. Nothing in Lean hashes anything: it is a label: what it is worth is what the hold of that sum in a sandbox is worth. -/
noncomputable def Try.pinned : Pinned := { name := "ytcjaembdcfppfaa", sum := "8707d8fdcb843fc5c41a18086bc05e2465cfbfa632c8598dee906193d60bfdae", checked := Try.checked }
namespace Rows
def none {H : Type} : Left H := { results := [], args := [] }

/-- 'seamarklaw11.GridWater': WHATEVER THE INPUT: true; the input reads as it did. -/
def gridWaterSpec : ChangeSpec := { name := "gridWater", fn := fun _ => fun
  | [d1, d2, d3, d4] => { results := [.lit (.bool true)], args := [d1, d2, d3, d4] }
  | _ => none }
def gridWaterRow : OpenClaim := { program := "ytcjaembdcfppfaa", sum := "8707d8fdcb843fc5c41a18086bc05e2465cfbfa632c8598dee906193d60bfdae", func := "seamark/seamarklaw11.GridWater", spec := "gridWater", unfollowed := true, recurses := true, apart := false }
def GridWaterSaid : Prop := gridWaterRow.holds Try.pinned (OpenSpec.ofChange gridWaterSpec)

/-- ITS FALSE NEIGHBOUR: 'it returns false'. Refute it at one input. -/
def gridWaterWrong : ChangeSpec := { name := "gridWater", fn := fun _ => fun
  | [d1, d2, d3, d4] => { results := [.lit (.bool false)], args := [d1, d2, d3, d4] }
  | _ => none }
def GridWaterWrongFalsely : Prop := gridWaterRow.holds Try.pinned (OpenSpec.ofChange gridWaterWrong)

/-- 'seamarklaw11.GridWays': WHATEVER THE INPUT: true; the input reads as it did. -/
def gridWaysSpec : ChangeSpec := { name := "gridWays", fn := fun _ => fun
  | [d1, d2, d3, d4, d5] => { results := [.lit (.bool true)], args := [d1, d2, d3, d4, d5] }
  | _ => none }
def gridWaysRow : OpenClaim := { program := "ytcjaembdcfppfaa", sum := "8707d8fdcb843fc5c41a18086bc05e2465cfbfa632c8598dee906193d60bfdae", func := "seamark/seamarklaw11.GridWays", spec := "gridWays", unfollowed := true, recurses := true, apart := false }
def GridWaysSaid : Prop := gridWaysRow.holds Try.pinned (OpenSpec.ofChange gridWaysSpec)

/-- ITS FALSE NEIGHBOUR: 'it returns false'. Refute it at one input. -/
def gridWaysWrong : ChangeSpec := { name := "gridWays", fn := fun _ => fun
  | [d1, d2, d3, d4, d5] => { results := [.lit (.bool false)], args := [d1, d2, d3, d4, d5] }
  | _ => none }
def GridWaysWrongFalsely : Prop := gridWaysRow.holds Try.pinned (OpenSpec.ofChange gridWaysWrong)

/-- 'seamarklaw11.GridNeed': WHATEVER THE INPUT: true; the input reads as it did. -/
def gridNeedSpec : ChangeSpec := { name := "gridNeed", fn := fun _ => fun
  | [d1, d2, d3] => { results := [.lit (.bool true)], args := [d1, d2, d3] }
  | _ => none }
def gridNeedRow : OpenClaim := { program := "ytcjaembdcfppfaa", sum := "8707d8fdcb843fc5c41a18086bc05e2465cfbfa632c8598dee906193d60bfdae", func := "seamark/seamarklaw11.GridNeed", spec := "gridNeed", unfollowed := true, recurses := true, apart := false }
def GridNeedSaid : Prop := gridNeedRow.holds Try.pinned (OpenSpec.ofChange gridNeedSpec)

/-- ITS FALSE NEIGHBOUR: 'it returns false'. Refute it at one input. -/
def gridNeedWrong : ChangeSpec := { name := "gridNeed", fn := fun _ => fun
  | [d1, d2, d3] => { results := [.lit (.bool false)], args := [d1, d2, d3] }
  | _ => none }
def GridNeedWrongFalsely : Prop := gridNeedRow.holds Try.pinned (OpenSpec.ofChange gridNeedWrong)

/-- 'seamarklaw11.GridCoarse': WHATEVER THE INPUT: true; the input reads as it did. -/
def gridCoarseSpec : ChangeSpec := { name := "gridCoarse", fn := fun _ => fun
  | [d1, d2, d3, d4, d5, d6] => { results := [.lit (.bool true)], args := [d1, d2, d3, d4, d5, d6] }
  | _ => none }
def gridCoarseRow : OpenClaim := { program := "ytcjaembdcfppfaa", sum := "8707d8fdcb843fc5c41a18086bc05e2465cfbfa632c8598dee906193d60bfdae", func := "seamark/seamarklaw11.GridCoarse", spec := "gridCoarse", unfollowed := true, recurses := true, apart := false }
def GridCoarseSaid : Prop := gridCoarseRow.holds Try.pinned (OpenSpec.ofChange gridCoarseSpec)

/-- ITS FALSE NEIGHBOUR: 'it returns false'. Refute it at one input. -/
def gridCoarseWrong : ChangeSpec := { name := "gridCoarse", fn := fun _ => fun
  | [d1, d2, d3, d4, d5, d6] => { results := [.lit (.bool false)], args := [d1, d2, d3, d4, d5, d6] }
  | _ => none }
def GridCoarseWrongFalsely : Prop := gridCoarseRow.holds Try.pinned (OpenSpec.ofChange gridCoarseWrong)

/-- 'seamarklaw11.GridMore': WHATEVER THE INPUT: true; the input reads as it did. -/
def gridMoreSpec : ChangeSpec := { name := "gridMore", fn := fun _ => fun
  | [d1, d2, d3, d4, d5, d6, d7, d8, d9] => { results := [.lit (.bool true)], args := [d1, d2, d3, d4, d5, d6, d7, d8, d9] }
  | _ => none }
def gridMoreRow : OpenClaim := { program := "ytcjaembdcfppfaa", sum := "8707d8fdcb843fc5c41a18086bc05e2465cfbfa632c8598dee906193d60bfdae", func := "seamark/seamarklaw11.GridMore", spec := "gridMore", unfollowed := true, recurses := true, apart := false }
def GridMoreSaid : Prop := gridMoreRow.holds Try.pinned (OpenSpec.ofChange gridMoreSpec)

/-- ITS FALSE NEIGHBOUR: 'it returns false'. Refute it at one input. -/
def gridMoreWrong : ChangeSpec := { name := "gridMore", fn := fun _ => fun
  | [d1, d2, d3, d4, d5, d6, d7, d8, d9] => { results := [.lit (.bool false)], args := [d1, d2, d3, d4, d5, d6, d7, d8, d9] }
  | _ => none }
def GridMoreWrongFalsely : Prop := gridMoreRow.holds Try.pinned (OpenSpec.ofChange gridMoreWrong)

/- THE SECOND FORM. 'bulk': how many values and letters a reading holds, each counted each time it is reached (what is shared counts as often as it is met; a slice's spare places count too). A statement '..UptoSaid' is the law's where the arguments, and the package variables that the reading takes, are together of bulk at most 1048576: NARROWER than '..Said'. Prove '..Said' where nothing that the law and all that it calls make is longer than what came in: it says more and counts as full. Else prove '..UptoSaid'. A law counts once. -/
mutual
def uptoBulk {H : Type} : DataW H → Nat
  | .lit (.string bytes) => bytes.length + 1
  | .lit _ => 1
  | .nil => 1
  | .ptr d => uptoBulk d + 1
  | .slice elems spare => uptoBulkAll elems + uptoBulkAll spare + 1
  | .agg parts => uptoBulkAll parts + 1
  | .iface _ d => uptoBulk d + 1
  | .map entries => uptoBulkEntries entries + 1
  | .held _ => 1
def uptoBulkAll {H : Type} : List (DataW H) → Nat
  | [] => 0
  | d :: r => uptoBulk d + uptoBulkAll r
def uptoBulkEntries {H : Type} : List (Lit × DataW H) → Nat
  | [] => 0
  | x :: r => uptoBulkEntry x + uptoBulkEntries r
def uptoBulkEntry {H : Type} : Lit × DataW H → Nat
  | (.string bytes, d) => bytes.length + uptoBulk d + 1
  | (_, d) => uptoBulk d + 1
 end
def uptoSmall : (H : Type) → List (DataW H) → Bool := fun _ ds => decide (uptoBulkAll ds ≤ 1048576)
def OpenSpec.upto (s : _root_.Go.ChangeSpec) : _root_.Go.OpenSpec := { _root_.Go.OpenSpec.ofChange s with cond := some uptoSmall }

/-- 'seamarklaw11.GridWater', WHERE WHAT IT READS IS OF BULK AT MOST 1048576: true; the input reads as it did. -/
def gridWaterUptoRow : OpenClaim := { program := "ytcjaembdcfppfaa", sum := "8707d8fdcb843fc5c41a18086bc05e2465cfbfa632c8598dee906193d60bfdae", func := "seamark/seamarklaw11.GridWater", spec := "gridWater", unfollowed := true, recurses := true, apart := false, narrowed := true }
def GridWaterUptoSaid : Prop := gridWaterUptoRow.holds Try.pinned (OpenSpec.upto gridWaterSpec)

/-- 'seamarklaw11.GridWays', WHERE WHAT IT READS IS OF BULK AT MOST 1048576: true; the input reads as it did. -/
def gridWaysUptoRow : OpenClaim := { program := "ytcjaembdcfppfaa", sum := "8707d8fdcb843fc5c41a18086bc05e2465cfbfa632c8598dee906193d60bfdae", func := "seamark/seamarklaw11.GridWays", spec := "gridWays", unfollowed := true, recurses := true, apart := false, narrowed := true }
def GridWaysUptoSaid : Prop := gridWaysUptoRow.holds Try.pinned (OpenSpec.upto gridWaysSpec)

/-- 'seamarklaw11.GridNeed', WHERE WHAT IT READS IS OF BULK AT MOST 1048576: true; the input reads as it did. -/
def gridNeedUptoRow : OpenClaim := { program := "ytcjaembdcfppfaa", sum := "8707d8fdcb843fc5c41a18086bc05e2465cfbfa632c8598dee906193d60bfdae", func := "seamark/seamarklaw11.GridNeed", spec := "gridNeed", unfollowed := true, recurses := true, apart := false, narrowed := true }
def GridNeedUptoSaid : Prop := gridNeedUptoRow.holds Try.pinned (OpenSpec.upto gridNeedSpec)

/-- 'seamarklaw11.GridCoarse', WHERE WHAT IT READS IS OF BULK AT MOST 1048576: true; the input reads as it did. -/
def gridCoarseUptoRow : OpenClaim := { program := "ytcjaembdcfppfaa", sum := "8707d8fdcb843fc5c41a18086bc05e2465cfbfa632c8598dee906193d60bfdae", func := "seamark/seamarklaw11.GridCoarse", spec := "gridCoarse", unfollowed := true, recurses := true, apart := false, narrowed := true }
def GridCoarseUptoSaid : Prop := gridCoarseUptoRow.holds Try.pinned (OpenSpec.upto gridCoarseSpec)

/-- 'seamarklaw11.GridMore', WHERE WHAT IT READS IS OF BULK AT MOST 1048576: true; the input reads as it did. -/
def gridMoreUptoRow : OpenClaim := { program := "ytcjaembdcfppfaa", sum := "8707d8fdcb843fc5c41a18086bc05e2465cfbfa632c8598dee906193d60bfdae", func := "seamark/seamarklaw11.GridMore", spec := "gridMore", unfollowed := true, recurses := true, apart := false, narrowed := true }
def GridMoreUptoSaid : Prop := gridMoreUptoRow.holds Try.pinned (OpenSpec.upto gridMoreSpec)

end Rows
end Go.Proofs.Ytcjaembdcfppfaa
