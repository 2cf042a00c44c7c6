/-
  No cell of these rows narrows 'for every input' (looked for: loops, veiled, ifaces, maps, wideKeys, modest, calm, conditions, laid).
  DERIVED. THE GIVEN ROWS OF THIS SEAT. 3 by the template 'for every input the law returns true; each argument reads behind the call as it read before'; 0 by the template 'total and deterministic' (their statements: YtcjaembdcfppfaaGreatTotals.lean).
  GIVEN WITH THE SEED: the statements are not yours to turn. If you find one false, say at which input.
  Laid BY PROGRAM, IN A SANDBOX (cutbox-rows.mjs): the forced cells as the released guide's own fill.sh prints them over the translation 47c599a274bd7776… (all of the seat's roots in one cut). By AI agents, Wed Nov 11 2026. No macro, syntax, notation, axiom, sorry.
-/
import Derived.Test.YtcjaembdcfppfaaGreatChecked
import GoSem.Claim
import GoSem.ClaimJoined
import GoSem.ClaimMapViews
import Derived.JoinedTies
import Derived.KernelRfl
namespace Go.Proofs.YtcjaembdcfppfaaGreat
/- THE CELL 'sum', in the pinned program and in every row, IS THE sha256 OF THE DUMP (.gsa) THAT YtcjaembdcfppfaaGreatProg.lean LOADS. Nothing in Lean hashes anything: it is a label: what it is worth is what the hold of that sum in a sandbox is worth. -/
noncomputable def Tryz.pinned : Pinned := { name := "ytcjaembdcfppfaagreat", sum := "47c599a274bd7776933350ff48d8e7e76f33b3c4281e73ba1c3776cb26ce6f79", checked := Tryz.checked }
namespace Rows
def none {H : Type} : Left H := { results := [], args := [] }

/-- 'seamarklaw11.GridMatchesReference': WHATEVER THE INPUT: true; the input reads as it did. -/
def gridMatchesReferenceSpec : ChangeSpec := { name := "gridMatchesReference", fn := fun _ => fun
  | [d1, d2, d3, d4, d5, d6, d7, d8, d9, d10, d11] => { results := [.lit (.bool true)], args := [d1, d2, d3, d4, d5, d6, d7, d8, d9, d10, d11] }
  | _ => none }
def gridMatchesReferenceRow : OpenClaim := { program := "ytcjaembdcfppfaagreat", sum := "47c599a274bd7776933350ff48d8e7e76f33b3c4281e73ba1c3776cb26ce6f79", func := "seamark/seamarklaw11.GridMatchesReference", spec := "gridMatchesReference", unfollowed := true, recurses := true, apart := false }
def GridMatchesReferenceSaid : Prop := gridMatchesReferenceRow.holds Tryz.pinned (OpenSpec.ofChange gridMatchesReferenceSpec)

/-- ITS FALSE NEIGHBOUR: 'it returns false'. Refute it at one input. -/
def gridMatchesReferenceWrong : ChangeSpec := { name := "gridMatchesReference", fn := fun _ => fun
  | [d1, d2, d3, d4, d5, d6, d7, d8, d9, d10, d11] => { results := [.lit (.bool false)], args := [d1, d2, d3, d4, d5, d6, d7, d8, d9, d10, d11] }
  | _ => none }
def GridMatchesReferenceWrongFalsely : Prop := gridMatchesReferenceRow.holds Tryz.pinned (OpenSpec.ofChange gridMatchesReferenceWrong)

/-- 'seamarklaw11.GridNowhere': WHATEVER THE INPUT: true; the input reads as it did. -/
def gridNowhereSpec : ChangeSpec := { name := "gridNowhere", fn := fun _ => fun
  | [d1, d2, d3, d4, d5, d6, d7] => { results := [.lit (.bool true)], args := [d1, d2, d3, d4, d5, d6, d7] }
  | _ => none }
def gridNowhereRow : OpenClaim := { program := "ytcjaembdcfppfaagreat", sum := "47c599a274bd7776933350ff48d8e7e76f33b3c4281e73ba1c3776cb26ce6f79", func := "seamark/seamarklaw11.GridNowhere", spec := "gridNowhere", unfollowed := true, recurses := true, apart := false }
def GridNowhereSaid : Prop := gridNowhereRow.holds Tryz.pinned (OpenSpec.ofChange gridNowhereSpec)

/-- ITS FALSE NEIGHBOUR: 'it returns false'. Refute it at one input. -/
def gridNowhereWrong : ChangeSpec := { name := "gridNowhere", fn := fun _ => fun
  | [d1, d2, d3, d4, d5, d6, d7] => { results := [.lit (.bool false)], args := [d1, d2, d3, d4, d5, d6, d7] }
  | _ => none }
def GridNowhereWrongFalsely : Prop := gridNowhereRow.holds Tryz.pinned (OpenSpec.ofChange gridNowhereWrong)

/-- 'seamarklaw11.GridSafe': WHATEVER THE INPUT: true; the input reads as it did. -/
def gridSafeSpec : ChangeSpec := { name := "gridSafe", fn := fun _ => fun
  | [d1, d2, d3, d4, d5, d6, d7, d8, d9] => { results := [.lit (.bool true)], args := [d1, d2, d3, d4, d5, d6, d7, d8, d9] }
  | _ => none }
def gridSafeRow : OpenClaim := { program := "ytcjaembdcfppfaagreat", sum := "47c599a274bd7776933350ff48d8e7e76f33b3c4281e73ba1c3776cb26ce6f79", func := "seamark/seamarklaw11.GridSafe", spec := "gridSafe", unfollowed := true, recurses := true, apart := false }
def GridSafeSaid : Prop := gridSafeRow.holds Tryz.pinned (OpenSpec.ofChange gridSafeSpec)

/-- ITS FALSE NEIGHBOUR: 'it returns false'. Refute it at one input. -/
def gridSafeWrong : ChangeSpec := { name := "gridSafe", fn := fun _ => fun
  | [d1, d2, d3, d4, d5, d6, d7, d8, d9] => { results := [.lit (.bool false)], args := [d1, d2, d3, d4, d5, d6, d7, d8, d9] }
  | _ => none }
def GridSafeWrongFalsely : Prop := gridSafeRow.holds Tryz.pinned (OpenSpec.ofChange gridSafeWrong)

/- THE SECOND FORM. 'bulk': how many values and letters a reading holds, each counted each time it is reached (what is shared counts as often as it is met; a slice's spare places count too). A statement '..UptoSaid' is the law's where the arguments, and the package variables that the reading takes, are together of bulk at most 1048576: NARROWER than '..Said'. Prove '..Said' where nothing that the law and all that it calls make is longer than what came in: it says more and counts as full. Else prove '..UptoSaid'. A law counts once. -/
mutual
def uptoBulk {H : Type} : DataW H → Nat
  | .lit (.string bytes) => bytes.length + 1
  | .lit _ => 1
  | .nil => 1
  | .ptr d => uptoBulk d + 1
  | .slice elems spare => uptoBulkAll elems + uptoBulkAll spare + 1
  | .agg parts => uptoBulkAll parts + 1
  | .iface _ d => uptoBulk d + 1
  | .map entries => uptoBulkEntries entries + 1
  | .held _ => 1
def uptoBulkAll {H : Type} : List (DataW H) → Nat
  | [] => 0
  | d :: r => uptoBulk d + uptoBulkAll r
def uptoBulkEntries {H : Type} : List (Lit × DataW H) → Nat
  | [] => 0
  | x :: r => uptoBulkEntry x + uptoBulkEntries r
def uptoBulkEntry {H : Type} : Lit × DataW H → Nat
  | (.string bytes, d) => bytes.length + uptoBulk d + 1
  | (_, d) => uptoBulk d + 1
 end
def uptoSmall : (H : Type) → List (DataW H) → Bool := fun _ ds => decide (uptoBulkAll ds ≤ 1048576)
def OpenSpec.upto (s : _root_.Go.ChangeSpec) : _root_.Go.OpenSpec := { _root_.Go.OpenSpec.ofChange s with cond := some uptoSmall }

/-- 'seamarklaw11.GridMatchesReference', WHERE WHAT IT READS IS OF BULK AT MOST 1048576: true; the input reads as it did. -/
def gridMatchesReferenceUptoRow : OpenClaim := { program := "ytcjaembdcfppfaagreat", sum := "47c599a274bd7776933350ff48d8e7e76f33b3c4281e73ba1c3776cb26ce6f79", func := "seamark/seamarklaw11.GridMatchesReference", spec := "gridMatchesReference", unfollowed := true, recurses := true, apart := false, narrowed := true }
def GridMatchesReferenceUptoSaid : Prop := gridMatchesReferenceUptoRow.holds Tryz.pinned (OpenSpec.upto gridMatchesReferenceSpec)

/-- 'seamarklaw11.GridNowhere', WHERE WHAT IT READS IS OF BULK AT MOST 1048576: true; the input reads as it did. -/
def gridNowhereUptoRow : OpenClaim := { program := "ytcjaembdcfppfaagreat", sum := "47c599a274bd7776933350ff48d8e7e76f33b3c4281e73ba1c3776cb26ce6f79", func := "seamark/seamarklaw11.GridNowhere", spec := "gridNowhere", unfollowed := true, recurses := true, apart := false, narrowed := true }
def GridNowhereUptoSaid : Prop := gridNowhereUptoRow.holds Tryz.pinned (OpenSpec.upto gridNowhereSpec)

/-- 'seamarklaw11.GridSafe', WHERE WHAT IT READS IS OF BULK AT MOST 1048576: true; the input reads as it did. -/
def gridSafeUptoRow : OpenClaim := { program := "ytcjaembdcfppfaagreat", sum := "47c599a274bd7776933350ff48d8e7e76f33b3c4281e73ba1c3776cb26ce6f79", func := "seamark/seamarklaw11.GridSafe", spec := "gridSafe", unfollowed := true, recurses := true, apart := false, narrowed := true }
def GridSafeUptoSaid : Prop := gridSafeUptoRow.holds Tryz.pinned (OpenSpec.upto gridSafeSpec)

end Rows
end Go.Proofs.YtcjaembdcfppfaaGreat
