/-
  No cell of these rows narrows 'for every input' (looked for: loops, veiled, ifaces, maps, wideKeys, modest, calm, conditions, laid).
  DERIVED. THE GIVEN ROWS OF THIS SEAT. 8 by the template 'for every input the law returns true; each argument reads behind the call as it read before'; 0 by the template 'total and deterministic' (their statements: YtbbjlleaofgddaaGreatTotals.lean).
  GIVEN WITH THE SEED: the statements are not yours to turn. If you find one false, say at which input.
  Laid BY PROGRAM, IN A SANDBOX (cutbox-rows.mjs): the forced cells as the released guide's own fill.sh prints them over the translation b04b05ca04523af7… (all of the seat's roots in one cut). By AI agents, Wed Nov 11 2026. No macro, syntax, notation, axiom, sorry.
-/
import Derived.Test.YtbbjlleaofgddaaGreatChecked
import GoSem.Claim
import GoSem.ClaimJoined
import GoSem.ClaimMapViews
import Derived.JoinedTies
import Derived.KernelRfl
namespace Go.Proofs.YtbbjlleaofgddaaGreat
/- THE CELL 'sum', in the pinned program and in every row, IS THE sha256 OF THE DUMP (.gsa) THAT YtbbjlleaofgddaaGreatProg.lean LOADS. Nothing in Lean hashes anything: it is a label: what it is worth is what the hold of that sum in a sandbox is worth. -/
noncomputable def Tryz.pinned : Pinned := { name := "ytbbjlleaofgddaagreat", sum := "b04b05ca04523af7d5703a1edba18c0ec7c45ed8e521701ad3e6546f1aba23ca", checked := Tryz.checked }
namespace Rows
def none {H : Type} : Left H := { results := [], args := [] }

/-- 'seamarklaw42.ExchangeMatchesReference': WHATEVER THE INPUT: true; the input reads as it did. -/
def exchangeMatchesReferenceSpec : ChangeSpec := { name := "exchangeMatchesReference", fn := fun _ => fun
  | [d1, d2, d3, d4, d5, d6, d7, d8] => { results := [.lit (.bool true)], args := [d1, d2, d3, d4, d5, d6, d7, d8] }
  | _ => none }
def exchangeMatchesReferenceRow : OpenClaim := { program := "ytbbjlleaofgddaagreat", sum := "b04b05ca04523af7d5703a1edba18c0ec7c45ed8e521701ad3e6546f1aba23ca", func := "seamark/seamarklaw42.ExchangeMatchesReference", spec := "exchangeMatchesReference", inPlace := ["slices.overlaps[seamark/api.Letter]"], unfollowed := true, recurses := true, apart := false }
def ExchangeMatchesReferenceSaid : Prop := exchangeMatchesReferenceRow.holds Tryz.pinned (OpenSpec.ofChange exchangeMatchesReferenceSpec)

/-- ITS FALSE NEIGHBOUR: 'it returns false'. Refute it at one input. -/
def exchangeMatchesReferenceWrong : ChangeSpec := { name := "exchangeMatchesReference", fn := fun _ => fun
  | [d1, d2, d3, d4, d5, d6, d7, d8] => { results := [.lit (.bool false)], args := [d1, d2, d3, d4, d5, d6, d7, d8] }
  | _ => none }
def ExchangeMatchesReferenceWrongFalsely : Prop := exchangeMatchesReferenceRow.holds Tryz.pinned (OpenSpec.ofChange exchangeMatchesReferenceWrong)

/-- 'seamarklaw42.ExchangeOnce': WHATEVER THE INPUT: true; the input reads as it did. -/
def exchangeOnceSpec : ChangeSpec := { name := "exchangeOnce", fn := fun _ => fun
  | [d1, d2] => { results := [.lit (.bool true)], args := [d1, d2] }
  | _ => none }
def exchangeOnceRow : OpenClaim := { program := "ytbbjlleaofgddaagreat", sum := "b04b05ca04523af7d5703a1edba18c0ec7c45ed8e521701ad3e6546f1aba23ca", func := "seamark/seamarklaw42.ExchangeOnce", spec := "exchangeOnce", inPlace := ["slices.overlaps[seamark/api.Letter]"], unfollowed := true, recurses := true, apart := false }
def ExchangeOnceSaid : Prop := exchangeOnceRow.holds Tryz.pinned (OpenSpec.ofChange exchangeOnceSpec)

/-- ITS FALSE NEIGHBOUR: 'it returns false'. Refute it at one input. -/
def exchangeOnceWrong : ChangeSpec := { name := "exchangeOnce", fn := fun _ => fun
  | [d1, d2] => { results := [.lit (.bool false)], args := [d1, d2] }
  | _ => none }
def ExchangeOnceWrongFalsely : Prop := exchangeOnceRow.holds Tryz.pinned (OpenSpec.ofChange exchangeOnceWrong)

/-- 'seamarklaw42.ExchangeProgress': WHATEVER THE INPUT: true; the input reads as it did. -/
def exchangeProgressSpec : ChangeSpec := { name := "exchangeProgress", fn := fun _ => fun
  | [d1, d2] => { results := [.lit (.bool true)], args := [d1, d2] }
  | _ => none }
def exchangeProgressRow : OpenClaim := { program := "ytbbjlleaofgddaagreat", sum := "b04b05ca04523af7d5703a1edba18c0ec7c45ed8e521701ad3e6546f1aba23ca", func := "seamark/seamarklaw42.ExchangeProgress", spec := "exchangeProgress", inPlace := ["slices.overlaps[seamark/api.Letter]"], unfollowed := true, recurses := true, apart := false }
def ExchangeProgressSaid : Prop := exchangeProgressRow.holds Tryz.pinned (OpenSpec.ofChange exchangeProgressSpec)

/-- ITS FALSE NEIGHBOUR: 'it returns false'. Refute it at one input. -/
def exchangeProgressWrong : ChangeSpec := { name := "exchangeProgress", fn := fun _ => fun
  | [d1, d2] => { results := [.lit (.bool false)], args := [d1, d2] }
  | _ => none }
def ExchangeProgressWrongFalsely : Prop := exchangeProgressRow.holds Tryz.pinned (OpenSpec.ofChange exchangeProgressWrong)

/-- 'seamarklaw42.ExchangeRepeated': WHATEVER THE INPUT: true; the input reads as it did. -/
def exchangeRepeatedSpec : ChangeSpec := { name := "exchangeRepeated", fn := fun _ => fun
  | [d1, d2] => { results := [.lit (.bool true)], args := [d1, d2] }
  | _ => none }
def exchangeRepeatedRow : OpenClaim := { program := "ytbbjlleaofgddaagreat", sum := "b04b05ca04523af7d5703a1edba18c0ec7c45ed8e521701ad3e6546f1aba23ca", func := "seamark/seamarklaw42.ExchangeRepeated", spec := "exchangeRepeated", inPlace := ["slices.overlaps[seamark/api.Letter]"], unfollowed := true, recurses := true, apart := false }
def ExchangeRepeatedSaid : Prop := exchangeRepeatedRow.holds Tryz.pinned (OpenSpec.ofChange exchangeRepeatedSpec)

/-- ITS FALSE NEIGHBOUR: 'it returns false'. Refute it at one input. -/
def exchangeRepeatedWrong : ChangeSpec := { name := "exchangeRepeated", fn := fun _ => fun
  | [d1, d2] => { results := [.lit (.bool false)], args := [d1, d2] }
  | _ => none }
def ExchangeRepeatedWrongFalsely : Prop := exchangeRepeatedRow.holds Tryz.pinned (OpenSpec.ofChange exchangeRepeatedWrong)

/-- 'seamarklaw42.ExchangeOvertaken': WHATEVER THE INPUT: true; the input reads as it did. -/
def exchangeOvertakenSpec : ChangeSpec := { name := "exchangeOvertaken", fn := fun _ => fun
  | [d1, d2] => { results := [.lit (.bool true)], args := [d1, d2] }
  | _ => none }
def exchangeOvertakenRow : OpenClaim := { program := "ytbbjlleaofgddaagreat", sum := "b04b05ca04523af7d5703a1edba18c0ec7c45ed8e521701ad3e6546f1aba23ca", func := "seamark/seamarklaw42.ExchangeOvertaken", spec := "exchangeOvertaken", inPlace := ["slices.overlaps[seamark/api.Letter]"], unfollowed := true, recurses := true, apart := false }
def ExchangeOvertakenSaid : Prop := exchangeOvertakenRow.holds Tryz.pinned (OpenSpec.ofChange exchangeOvertakenSpec)

/-- ITS FALSE NEIGHBOUR: 'it returns false'. Refute it at one input. -/
def exchangeOvertakenWrong : ChangeSpec := { name := "exchangeOvertaken", fn := fun _ => fun
  | [d1, d2] => { results := [.lit (.bool false)], args := [d1, d2] }
  | _ => none }
def ExchangeOvertakenWrongFalsely : Prop := exchangeOvertakenRow.holds Tryz.pinned (OpenSpec.ofChange exchangeOvertakenWrong)

/-- 'seamarklaw42.ExchangeAcknowledged': WHATEVER THE INPUT: true; the input reads as it did. -/
def exchangeAcknowledgedSpec : ChangeSpec := { name := "exchangeAcknowledged", fn := fun _ => fun
  | [d1, d2, d3] => { results := [.lit (.bool true)], args := [d1, d2, d3] }
  | _ => none }
def exchangeAcknowledgedRow : OpenClaim := { program := "ytbbjlleaofgddaagreat", sum := "b04b05ca04523af7d5703a1edba18c0ec7c45ed8e521701ad3e6546f1aba23ca", func := "seamark/seamarklaw42.ExchangeAcknowledged", spec := "exchangeAcknowledged", inPlace := ["slices.overlaps[seamark/api.Letter]"], unfollowed := true, recurses := true, apart := false }
def ExchangeAcknowledgedSaid : Prop := exchangeAcknowledgedRow.holds Tryz.pinned (OpenSpec.ofChange exchangeAcknowledgedSpec)

/-- ITS FALSE NEIGHBOUR: 'it returns false'. Refute it at one input. -/
def exchangeAcknowledgedWrong : ChangeSpec := { name := "exchangeAcknowledged", fn := fun _ => fun
  | [d1, d2, d3] => { results := [.lit (.bool false)], args := [d1, d2, d3] }
  | _ => none }
def ExchangeAcknowledgedWrongFalsely : Prop := exchangeAcknowledgedRow.holds Tryz.pinned (OpenSpec.ofChange exchangeAcknowledgedWrong)

/-- 'seamarklaw42.ExchangeForward': WHATEVER THE INPUT: true; the input reads as it did. -/
def exchangeForwardSpec : ChangeSpec := { name := "exchangeForward", fn := fun _ => fun
  | [d1, d2, d3] => { results := [.lit (.bool true)], args := [d1, d2, d3] }
  | _ => none }
def exchangeForwardRow : OpenClaim := { program := "ytbbjlleaofgddaagreat", sum := "b04b05ca04523af7d5703a1edba18c0ec7c45ed8e521701ad3e6546f1aba23ca", func := "seamark/seamarklaw42.ExchangeForward", spec := "exchangeForward", inPlace := ["slices.overlaps[seamark/api.Letter]"], unfollowed := true, recurses := true, apart := false }
def ExchangeForwardSaid : Prop := exchangeForwardRow.holds Tryz.pinned (OpenSpec.ofChange exchangeForwardSpec)

/-- ITS FALSE NEIGHBOUR: 'it returns false'. Refute it at one input. -/
def exchangeForwardWrong : ChangeSpec := { name := "exchangeForward", fn := fun _ => fun
  | [d1, d2, d3] => { results := [.lit (.bool false)], args := [d1, d2, d3] }
  | _ => none }
def ExchangeForwardWrongFalsely : Prop := exchangeForwardRow.holds Tryz.pinned (OpenSpec.ofChange exchangeForwardWrong)

/-- 'seamarklaw42.ExchangeMerged': WHATEVER THE INPUT: true; the input reads as it did. -/
def exchangeMergedSpec : ChangeSpec := { name := "exchangeMerged", fn := fun _ => fun
  | [d1, d2, d3] => { results := [.lit (.bool true)], args := [d1, d2, d3] }
  | _ => none }
def exchangeMergedRow : OpenClaim := { program := "ytbbjlleaofgddaagreat", sum := "b04b05ca04523af7d5703a1edba18c0ec7c45ed8e521701ad3e6546f1aba23ca", func := "seamark/seamarklaw42.ExchangeMerged", spec := "exchangeMerged", inPlace := ["slices.overlaps[seamark/api.Letter]"], unfollowed := true, recurses := true, apart := false }
def ExchangeMergedSaid : Prop := exchangeMergedRow.holds Tryz.pinned (OpenSpec.ofChange exchangeMergedSpec)

/-- ITS FALSE NEIGHBOUR: 'it returns false'. Refute it at one input. -/
def exchangeMergedWrong : ChangeSpec := { name := "exchangeMerged", fn := fun _ => fun
  | [d1, d2, d3] => { results := [.lit (.bool false)], args := [d1, d2, d3] }
  | _ => none }
def ExchangeMergedWrongFalsely : Prop := exchangeMergedRow.holds Tryz.pinned (OpenSpec.ofChange exchangeMergedWrong)

/- THE SECOND FORM. 'bulk': how many values and letters a reading holds, each counted each time it is reached (what is shared counts as often as it is met; a slice's spare places count too). A statement '..UptoSaid' is the law's where the arguments, and the package variables that the reading takes, are together of bulk at most 1048576: NARROWER than '..Said'. Prove '..Said' where nothing that the law and all that it calls make is longer than what came in: it says more and counts as full. Else prove '..UptoSaid'. A law counts once. -/
mutual
def uptoBulk {H : Type} : DataW H → Nat
  | .lit (.string bytes) => bytes.length + 1
  | .lit _ => 1
  | .nil => 1
  | .ptr d => uptoBulk d + 1
  | .slice elems spare => uptoBulkAll elems + uptoBulkAll spare + 1
  | .agg parts => uptoBulkAll parts + 1
  | .iface _ d => uptoBulk d + 1
  | .map entries => uptoBulkEntries entries + 1
  | .held _ => 1
def uptoBulkAll {H : Type} : List (DataW H) → Nat
  | [] => 0
  | d :: r => uptoBulk d + uptoBulkAll r
def uptoBulkEntries {H : Type} : List (Lit × DataW H) → Nat
  | [] => 0
  | x :: r => uptoBulkEntry x + uptoBulkEntries r
def uptoBulkEntry {H : Type} : Lit × DataW H → Nat
  | (.string bytes, d) => bytes.length + uptoBulk d + 1
  | (_, d) => uptoBulk d + 1
 end
def uptoSmall : (H : Type) → List (DataW H) → Bool := fun _ ds => decide (uptoBulkAll ds ≤ 1048576)
def OpenSpec.upto (s : _root_.Go.ChangeSpec) : _root_.Go.OpenSpec := { _root_.Go.OpenSpec.ofChange s with cond := some uptoSmall }

/-- 'seamarklaw42.ExchangeMatchesReference', WHERE WHAT IT READS IS OF BULK AT MOST 1048576: true; the input reads as it did. -/
def exchangeMatchesReferenceUptoRow : OpenClaim := { program := "ytbbjlleaofgddaagreat", sum := "b04b05ca04523af7d5703a1edba18c0ec7c45ed8e521701ad3e6546f1aba23ca", func := "seamark/seamarklaw42.ExchangeMatchesReference", spec := "exchangeMatchesReference", inPlace := ["slices.overlaps[seamark/api.Letter]"], unfollowed := true, recurses := true, apart := false, narrowed := true }
def ExchangeMatchesReferenceUptoSaid : Prop := exchangeMatchesReferenceUptoRow.holds Tryz.pinned (OpenSpec.upto exchangeMatchesReferenceSpec)

/-- 'seamarklaw42.ExchangeOnce', WHERE WHAT IT READS IS OF BULK AT MOST 1048576: true; the input reads as it did. -/
def exchangeOnceUptoRow : OpenClaim := { program := "ytbbjlleaofgddaagreat", sum := "b04b05ca04523af7d5703a1edba18c0ec7c45ed8e521701ad3e6546f1aba23ca", func := "seamark/seamarklaw42.ExchangeOnce", spec := "exchangeOnce", inPlace := ["slices.overlaps[seamark/api.Letter]"], unfollowed := true, recurses := true, apart := false, narrowed := true }
def ExchangeOnceUptoSaid : Prop := exchangeOnceUptoRow.holds Tryz.pinned (OpenSpec.upto exchangeOnceSpec)

/-- 'seamarklaw42.ExchangeProgress', WHERE WHAT IT READS IS OF BULK AT MOST 1048576: true; the input reads as it did. -/
def exchangeProgressUptoRow : OpenClaim := { program := "ytbbjlleaofgddaagreat", sum := "b04b05ca04523af7d5703a1edba18c0ec7c45ed8e521701ad3e6546f1aba23ca", func := "seamark/seamarklaw42.ExchangeProgress", spec := "exchangeProgress", inPlace := ["slices.overlaps[seamark/api.Letter]"], unfollowed := true, recurses := true, apart := false, narrowed := true }
def ExchangeProgressUptoSaid : Prop := exchangeProgressUptoRow.holds Tryz.pinned (OpenSpec.upto exchangeProgressSpec)

/-- 'seamarklaw42.ExchangeRepeated', WHERE WHAT IT READS IS OF BULK AT MOST 1048576: true; the input reads as it did. -/
def exchangeRepeatedUptoRow : OpenClaim := { program := "ytbbjlleaofgddaagreat", sum := "b04b05ca04523af7d5703a1edba18c0ec7c45ed8e521701ad3e6546f1aba23ca", func := "seamark/seamarklaw42.ExchangeRepeated", spec := "exchangeRepeated", inPlace := ["slices.overlaps[seamark/api.Letter]"], unfollowed := true, recurses := true, apart := false, narrowed := true }
def ExchangeRepeatedUptoSaid : Prop := exchangeRepeatedUptoRow.holds Tryz.pinned (OpenSpec.upto exchangeRepeatedSpec)

/-- 'seamarklaw42.ExchangeOvertaken', WHERE WHAT IT READS IS OF BULK AT MOST 1048576: true; the input reads as it did. -/
def exchangeOvertakenUptoRow : OpenClaim := { program := "ytbbjlleaofgddaagreat", sum := "b04b05ca04523af7d5703a1edba18c0ec7c45ed8e521701ad3e6546f1aba23ca", func := "seamark/seamarklaw42.ExchangeOvertaken", spec := "exchangeOvertaken", inPlace := ["slices.overlaps[seamark/api.Letter]"], unfollowed := true, recurses := true, apart := false, narrowed := true }
def ExchangeOvertakenUptoSaid : Prop := exchangeOvertakenUptoRow.holds Tryz.pinned (OpenSpec.upto exchangeOvertakenSpec)

/-- 'seamarklaw42.ExchangeAcknowledged', WHERE WHAT IT READS IS OF BULK AT MOST 1048576: true; the input reads as it did. -/
def exchangeAcknowledgedUptoRow : OpenClaim := { program := "ytbbjlleaofgddaagreat", sum := "b04b05ca04523af7d5703a1edba18c0ec7c45ed8e521701ad3e6546f1aba23ca", func := "seamark/seamarklaw42.ExchangeAcknowledged", spec := "exchangeAcknowledged", inPlace := ["slices.overlaps[seamark/api.Letter]"], unfollowed := true, recurses := true, apart := false, narrowed := true }
def ExchangeAcknowledgedUptoSaid : Prop := exchangeAcknowledgedUptoRow.holds Tryz.pinned (OpenSpec.upto exchangeAcknowledgedSpec)

/-- 'seamarklaw42.ExchangeForward', WHERE WHAT IT READS IS OF BULK AT MOST 1048576: true; the input reads as it did. -/
def exchangeForwardUptoRow : OpenClaim := { program := "ytbbjlleaofgddaagreat", sum := "b04b05ca04523af7d5703a1edba18c0ec7c45ed8e521701ad3e6546f1aba23ca", func := "seamark/seamarklaw42.ExchangeForward", spec := "exchangeForward", inPlace := ["slices.overlaps[seamark/api.Letter]"], unfollowed := true, recurses := true, apart := false, narrowed := true }
def ExchangeForwardUptoSaid : Prop := exchangeForwardUptoRow.holds Tryz.pinned (OpenSpec.upto exchangeForwardSpec)

/-- 'seamarklaw42.ExchangeMerged', WHERE WHAT IT READS IS OF BULK AT MOST 1048576: true; the input reads as it did. -/
def exchangeMergedUptoRow : OpenClaim := { program := "ytbbjlleaofgddaagreat", sum := "b04b05ca04523af7d5703a1edba18c0ec7c45ed8e521701ad3e6546f1aba23ca", func := "seamark/seamarklaw42.ExchangeMerged", spec := "exchangeMerged", inPlace := ["slices.overlaps[seamark/api.Letter]"], unfollowed := true, recurses := true, apart := false, narrowed := true }
def ExchangeMergedUptoSaid : Prop := exchangeMergedUptoRow.holds Tryz.pinned (OpenSpec.upto exchangeMergedSpec)

end Rows
end Go.Proofs.YtbbjlleaofgddaaGreat
