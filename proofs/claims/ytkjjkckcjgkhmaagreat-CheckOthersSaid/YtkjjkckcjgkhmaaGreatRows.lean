/-
  No cell of these rows narrows 'for every input' (looked for: loops, veiled, ifaces, maps, wideKeys, modest, calm, conditions, laid).
  DERIVED. THE GIVEN ROWS OF THIS SEAT. 9 by the template 'for every input the law returns true; each argument reads behind the call as it read before'; 0 by the template 'total and deterministic' (their statements: YtkjjkckcjgkhmaaGreatTotals.lean).
  GIVEN WITH THE SEED: the statements are not yours to turn. If you find one false, say at which input.
  Laid BY PROGRAM, IN A SANDBOX (cutbox-rows.mjs): the forced cells as the released guide's own fill.sh prints them over the translation d4058e3bce460edf… (all of the seat's roots in one cut). By AI agents, Wed Nov 11 2026. No macro, syntax, notation, axiom, sorry.
-/
import Derived.Test.YtkjjkckcjgkhmaaGreatChecked
import GoSem.Claim
import GoSem.ClaimJoined
import GoSem.ClaimMapViews
import Derived.JoinedTies
import Derived.KernelRfl
namespace Go.Proofs.YtkjjkckcjgkhmaaGreat
/- THE CELL 'sum', in the pinned program and in every row, IS THE sha256 OF THE DUMP (.gsa) THAT YtkjjkckcjgkhmaaGreatProg.lean LOADS. Nothing in Lean hashes anything: it is a label: what it is worth is what the hold of that sum in a sandbox is worth. -/
noncomputable def Tryz.pinned : Pinned := { name := "ytkjjkckcjgkhmaagreat", sum := "d4058e3bce460edfcd652cb0adf4b78c9d4b59aaae6a54360814ba9489efe1d7", checked := Tryz.checked }
namespace Rows
def none {H : Type} : Left H := { results := [], args := [] }

/-- 'seamarklaw40.CheckCertified': WHATEVER THE INPUT: true; the input reads as it did. -/
def checkCertifiedSpec : ChangeSpec := { name := "checkCertified", fn := fun _ => fun
  | [d1, d2] => { results := [.lit (.bool true)], args := [d1, d2] }
  | _ => none }
def checkCertifiedRow : OpenClaim := { program := "ytkjjkckcjgkhmaagreat", sum := "d4058e3bce460edfcd652cb0adf4b78c9d4b59aaae6a54360814ba9489efe1d7", func := "seamark/seamarklaw40.CheckCertified", spec := "checkCertified", unfollowed := true, recurses := true, apart := false }
def CheckCertifiedSaid : Prop := checkCertifiedRow.holds Tryz.pinned (OpenSpec.ofChange checkCertifiedSpec)

/-- ITS FALSE NEIGHBOUR: 'it returns false'. Refute it at one input. -/
def checkCertifiedWrong : ChangeSpec := { name := "checkCertified", fn := fun _ => fun
  | [d1, d2] => { results := [.lit (.bool false)], args := [d1, d2] }
  | _ => none }
def CheckCertifiedWrongFalsely : Prop := checkCertifiedRow.holds Tryz.pinned (OpenSpec.ofChange checkCertifiedWrong)

/-- 'seamarklaw40.CheckMore': WHATEVER THE INPUT: true; the input reads as it did. -/
def checkMoreSpec : ChangeSpec := { name := "checkMore", fn := fun _ => fun
  | [d1, d2, d3, d4, d5, d6] => { results := [.lit (.bool true)], args := [d1, d2, d3, d4, d5, d6] }
  | _ => none }
def checkMoreRow : OpenClaim := { program := "ytkjjkckcjgkhmaagreat", sum := "d4058e3bce460edfcd652cb0adf4b78c9d4b59aaae6a54360814ba9489efe1d7", func := "seamark/seamarklaw40.CheckMore", spec := "checkMore", unfollowed := true, recurses := true, apart := false }
def CheckMoreSaid : Prop := checkMoreRow.holds Tryz.pinned (OpenSpec.ofChange checkMoreSpec)

/-- ITS FALSE NEIGHBOUR: 'it returns false'. Refute it at one input. -/
def checkMoreWrong : ChangeSpec := { name := "checkMore", fn := fun _ => fun
  | [d1, d2, d3, d4, d5, d6] => { results := [.lit (.bool false)], args := [d1, d2, d3, d4, d5, d6] }
  | _ => none }
def CheckMoreWrongFalsely : Prop := checkMoreRow.holds Tryz.pinned (OpenSpec.ofChange checkMoreWrong)

/-- 'seamarklaw40.CheckLesser': WHATEVER THE INPUT: true; the input reads as it did. -/
def checkLesserSpec : ChangeSpec := { name := "checkLesser", fn := fun _ => fun
  | [d1, d2, d3, d4, d5] => { results := [.lit (.bool true)], args := [d1, d2, d3, d4, d5] }
  | _ => none }
def checkLesserRow : OpenClaim := { program := "ytkjjkckcjgkhmaagreat", sum := "d4058e3bce460edfcd652cb0adf4b78c9d4b59aaae6a54360814ba9489efe1d7", func := "seamark/seamarklaw40.CheckLesser", spec := "checkLesser", unfollowed := true, recurses := true, apart := false }
def CheckLesserSaid : Prop := checkLesserRow.holds Tryz.pinned (OpenSpec.ofChange checkLesserSpec)

/-- ITS FALSE NEIGHBOUR: 'it returns false'. Refute it at one input. -/
def checkLesserWrong : ChangeSpec := { name := "checkLesser", fn := fun _ => fun
  | [d1, d2, d3, d4, d5] => { results := [.lit (.bool false)], args := [d1, d2, d3, d4, d5] }
  | _ => none }
def CheckLesserWrongFalsely : Prop := checkLesserRow.holds Tryz.pinned (OpenSpec.ofChange checkLesserWrong)

/-- 'seamarklaw40.CheckOthers': WHATEVER THE INPUT: true; the input reads as it did. -/
def checkOthersSpec : ChangeSpec := { name := "checkOthers", fn := fun _ => fun
  | [d1, d2, d3, d4, d5] => { results := [.lit (.bool true)], args := [d1, d2, d3, d4, d5] }
  | _ => none }
def checkOthersRow : OpenClaim := { program := "ytkjjkckcjgkhmaagreat", sum := "d4058e3bce460edfcd652cb0adf4b78c9d4b59aaae6a54360814ba9489efe1d7", func := "seamark/seamarklaw40.CheckOthers", spec := "checkOthers", unfollowed := true, recurses := true, apart := false }
def CheckOthersSaid : Prop := checkOthersRow.holds Tryz.pinned (OpenSpec.ofChange checkOthersSpec)

/-- ITS FALSE NEIGHBOUR: 'it returns false'. Refute it at one input. -/
def checkOthersWrong : ChangeSpec := { name := "checkOthers", fn := fun _ => fun
  | [d1, d2, d3, d4, d5] => { results := [.lit (.bool false)], args := [d1, d2, d3, d4, d5] }
  | _ => none }
def CheckOthersWrongFalsely : Prop := checkOthersRow.holds Tryz.pinned (OpenSpec.ofChange checkOthersWrong)

/-- 'seamarklaw40.CheckAgain': WHATEVER THE INPUT: true; the input reads as it did. -/
def checkAgainSpec : ChangeSpec := { name := "checkAgain", fn := fun _ => fun
  | [d1, d2, d3, d4] => { results := [.lit (.bool true)], args := [d1, d2, d3, d4] }
  | _ => none }
def checkAgainRow : OpenClaim := { program := "ytkjjkckcjgkhmaagreat", sum := "d4058e3bce460edfcd652cb0adf4b78c9d4b59aaae6a54360814ba9489efe1d7", func := "seamark/seamarklaw40.CheckAgain", spec := "checkAgain", unfollowed := true, recurses := true, apart := false }
def CheckAgainSaid : Prop := checkAgainRow.holds Tryz.pinned (OpenSpec.ofChange checkAgainSpec)

/-- ITS FALSE NEIGHBOUR: 'it returns false'. Refute it at one input. -/
def checkAgainWrong : ChangeSpec := { name := "checkAgain", fn := fun _ => fun
  | [d1, d2, d3, d4] => { results := [.lit (.bool false)], args := [d1, d2, d3, d4] }
  | _ => none }
def CheckAgainWrongFalsely : Prop := checkAgainRow.holds Tryz.pinned (OpenSpec.ofChange checkAgainWrong)

/-- 'seamarklaw40.CheckFirst': WHATEVER THE INPUT: true; the input reads as it did. -/
def checkFirstSpec : ChangeSpec := { name := "checkFirst", fn := fun _ => fun
  | [d] => { results := [.lit (.bool true)], args := [d] }
  | _ => none }
def checkFirstRow : OpenClaim := { program := "ytkjjkckcjgkhmaagreat", sum := "d4058e3bce460edfcd652cb0adf4b78c9d4b59aaae6a54360814ba9489efe1d7", func := "seamark/seamarklaw40.CheckFirst", spec := "checkFirst", unfollowed := true, recurses := true, apart := false }
def CheckFirstSaid : Prop := checkFirstRow.holds Tryz.pinned (OpenSpec.ofChange checkFirstSpec)

/-- ITS FALSE NEIGHBOUR: 'it returns false'. Refute it at one input. -/
def checkFirstWrong : ChangeSpec := { name := "checkFirst", fn := fun _ => fun
  | [d] => { results := [.lit (.bool false)], args := [d] }
  | _ => none }
def CheckFirstWrongFalsely : Prop := checkFirstRow.holds Tryz.pinned (OpenSpec.ofChange checkFirstWrong)

/-- 'seamarklaw40.CheckSafe': WHATEVER THE INPUT: true; the input reads as it did. -/
def checkSafeSpec : ChangeSpec := { name := "checkSafe", fn := fun _ => fun
  | [d1, d2, d3, d4, d5, d6, d7] => { results := [.lit (.bool true)], args := [d1, d2, d3, d4, d5, d6, d7] }
  | _ => none }
def checkSafeRow : OpenClaim := { program := "ytkjjkckcjgkhmaagreat", sum := "d4058e3bce460edfcd652cb0adf4b78c9d4b59aaae6a54360814ba9489efe1d7", func := "seamark/seamarklaw40.CheckSafe", spec := "checkSafe", unfollowed := true, recurses := true, apart := false }
def CheckSafeSaid : Prop := checkSafeRow.holds Tryz.pinned (OpenSpec.ofChange checkSafeSpec)

/-- ITS FALSE NEIGHBOUR: 'it returns false'. Refute it at one input. -/
def checkSafeWrong : ChangeSpec := { name := "checkSafe", fn := fun _ => fun
  | [d1, d2, d3, d4, d5, d6, d7] => { results := [.lit (.bool false)], args := [d1, d2, d3, d4, d5, d6, d7] }
  | _ => none }
def CheckSafeWrongFalsely : Prop := checkSafeRow.holds Tryz.pinned (OpenSpec.ofChange checkSafeWrong)

/-- 'seamarklaw40.CheckSource': WHATEVER THE INPUT: true; the input reads as it did. -/
def checkSourceSpec : ChangeSpec := { name := "checkSource", fn := fun _ => fun
  | [d1, d2, d3] => { results := [.lit (.bool true)], args := [d1, d2, d3] }
  | _ => none }
def checkSourceRow : OpenClaim := { program := "ytkjjkckcjgkhmaagreat", sum := "d4058e3bce460edfcd652cb0adf4b78c9d4b59aaae6a54360814ba9489efe1d7", func := "seamark/seamarklaw40.CheckSource", spec := "checkSource", unfollowed := true, recurses := true, apart := false }
def CheckSourceSaid : Prop := checkSourceRow.holds Tryz.pinned (OpenSpec.ofChange checkSourceSpec)

/-- ITS FALSE NEIGHBOUR: 'it returns false'. Refute it at one input. -/
def checkSourceWrong : ChangeSpec := { name := "checkSource", fn := fun _ => fun
  | [d1, d2, d3] => { results := [.lit (.bool false)], args := [d1, d2, d3] }
  | _ => none }
def CheckSourceWrongFalsely : Prop := checkSourceRow.holds Tryz.pinned (OpenSpec.ofChange checkSourceWrong)

/-- 'seamarklaw40.CheckMatchesReference': WHATEVER THE INPUT: true; the input reads as it did. -/
def checkMatchesReferenceSpec : ChangeSpec := { name := "checkMatchesReference", fn := fun _ => fun
  | [d1, d2, d3, d4, d5, d6, d7] => { results := [.lit (.bool true)], args := [d1, d2, d3, d4, d5, d6, d7] }
  | _ => none }
def checkMatchesReferenceRow : OpenClaim := { program := "ytkjjkckcjgkhmaagreat", sum := "d4058e3bce460edfcd652cb0adf4b78c9d4b59aaae6a54360814ba9489efe1d7", func := "seamark/seamarklaw40.CheckMatchesReference", spec := "checkMatchesReference", unfollowed := true, recurses := true, apart := false }
def CheckMatchesReferenceSaid : Prop := checkMatchesReferenceRow.holds Tryz.pinned (OpenSpec.ofChange checkMatchesReferenceSpec)

/-- ITS FALSE NEIGHBOUR: 'it returns false'. Refute it at one input. -/
def checkMatchesReferenceWrong : ChangeSpec := { name := "checkMatchesReference", fn := fun _ => fun
  | [d1, d2, d3, d4, d5, d6, d7] => { results := [.lit (.bool false)], args := [d1, d2, d3, d4, d5, d6, d7] }
  | _ => none }
def CheckMatchesReferenceWrongFalsely : Prop := checkMatchesReferenceRow.holds Tryz.pinned (OpenSpec.ofChange checkMatchesReferenceWrong)

/- THE SECOND FORM. 'bulk': how many values and letters a reading holds, each counted each time it is reached (what is shared counts as often as it is met; a slice's spare places count too). A statement '..UptoSaid' is the law's where the arguments, and the package variables that the reading takes, are together of bulk at most 1048576: NARROWER than '..Said'. Prove '..Said' where nothing that the law and all that it calls make is longer than what came in: it says more and counts as full. Else prove '..UptoSaid'. A law counts once. -/
mutual
def uptoBulk {H : Type} : DataW H → Nat
  | .lit (.string bytes) => bytes.length + 1
  | .lit _ => 1
  | .nil => 1
  | .ptr d => uptoBulk d + 1
  | .slice elems spare => uptoBulkAll elems + uptoBulkAll spare + 1
  | .agg parts => uptoBulkAll parts + 1
  | .iface _ d => uptoBulk d + 1
  | .map entries => uptoBulkEntries entries + 1
  | .held _ => 1
def uptoBulkAll {H : Type} : List (DataW H) → Nat
  | [] => 0
  | d :: r => uptoBulk d + uptoBulkAll r
def uptoBulkEntries {H : Type} : List (Lit × DataW H) → Nat
  | [] => 0
  | x :: r => uptoBulkEntry x + uptoBulkEntries r
def uptoBulkEntry {H : Type} : Lit × DataW H → Nat
  | (.string bytes, d) => bytes.length + uptoBulk d + 1
  | (_, d) => uptoBulk d + 1
 end
def uptoSmall : (H : Type) → List (DataW H) → Bool := fun _ ds => decide (uptoBulkAll ds ≤ 1048576)
def OpenSpec.upto (s : _root_.Go.ChangeSpec) : _root_.Go.OpenSpec := { _root_.Go.OpenSpec.ofChange s with cond := some uptoSmall }

/-- 'seamarklaw40.CheckCertified', WHERE WHAT IT READS IS OF BULK AT MOST 1048576: true; the input reads as it did. -/
def checkCertifiedUptoRow : OpenClaim := { program := "ytkjjkckcjgkhmaagreat", sum := "d4058e3bce460edfcd652cb0adf4b78c9d4b59aaae6a54360814ba9489efe1d7", func := "seamark/seamarklaw40.CheckCertified", spec := "checkCertified", unfollowed := true, recurses := true, apart := false, narrowed := true }
def CheckCertifiedUptoSaid : Prop := checkCertifiedUptoRow.holds Tryz.pinned (OpenSpec.upto checkCertifiedSpec)

/-- 'seamarklaw40.CheckMore', WHERE WHAT IT READS IS OF BULK AT MOST 1048576: true; the input reads as it did. -/
def checkMoreUptoRow : OpenClaim := { program := "ytkjjkckcjgkhmaagreat", sum := "d4058e3bce460edfcd652cb0adf4b78c9d4b59aaae6a54360814ba9489efe1d7", func := "seamark/seamarklaw40.CheckMore", spec := "checkMore", unfollowed := true, recurses := true, apart := false, narrowed := true }
def CheckMoreUptoSaid : Prop := checkMoreUptoRow.holds Tryz.pinned (OpenSpec.upto checkMoreSpec)

/-- 'seamarklaw40.CheckLesser', WHERE WHAT IT READS IS OF BULK AT MOST 1048576: true; the input reads as it did. -/
def checkLesserUptoRow : OpenClaim := { program := "ytkjjkckcjgkhmaagreat", sum := "d4058e3bce460edfcd652cb0adf4b78c9d4b59aaae6a54360814ba9489efe1d7", func := "seamark/seamarklaw40.CheckLesser", spec := "checkLesser", unfollowed := true, recurses := true, apart := false, narrowed := true }
def CheckLesserUptoSaid : Prop := checkLesserUptoRow.holds Tryz.pinned (OpenSpec.upto checkLesserSpec)

/-- 'seamarklaw40.CheckOthers', WHERE WHAT IT READS IS OF BULK AT MOST 1048576: true; the input reads as it did. -/
def checkOthersUptoRow : OpenClaim := { program := "ytkjjkckcjgkhmaagreat", sum := "d4058e3bce460edfcd652cb0adf4b78c9d4b59aaae6a54360814ba9489efe1d7", func := "seamark/seamarklaw40.CheckOthers", spec := "checkOthers", unfollowed := true, recurses := true, apart := false, narrowed := true }
def CheckOthersUptoSaid : Prop := checkOthersUptoRow.holds Tryz.pinned (OpenSpec.upto checkOthersSpec)

/-- 'seamarklaw40.CheckAgain', WHERE WHAT IT READS IS OF BULK AT MOST 1048576: true; the input reads as it did. -/
def checkAgainUptoRow : OpenClaim := { program := "ytkjjkckcjgkhmaagreat", sum := "d4058e3bce460edfcd652cb0adf4b78c9d4b59aaae6a54360814ba9489efe1d7", func := "seamark/seamarklaw40.CheckAgain", spec := "checkAgain", unfollowed := true, recurses := true, apart := false, narrowed := true }
def CheckAgainUptoSaid : Prop := checkAgainUptoRow.holds Tryz.pinned (OpenSpec.upto checkAgainSpec)

/-- 'seamarklaw40.CheckFirst', WHERE WHAT IT READS IS OF BULK AT MOST 1048576: true; the input reads as it did. -/
def checkFirstUptoRow : OpenClaim := { program := "ytkjjkckcjgkhmaagreat", sum := "d4058e3bce460edfcd652cb0adf4b78c9d4b59aaae6a54360814ba9489efe1d7", func := "seamark/seamarklaw40.CheckFirst", spec := "checkFirst", unfollowed := true, recurses := true, apart := false, narrowed := true }
def CheckFirstUptoSaid : Prop := checkFirstUptoRow.holds Tryz.pinned (OpenSpec.upto checkFirstSpec)

/-- 'seamarklaw40.CheckSafe', WHERE WHAT IT READS IS OF BULK AT MOST 1048576: true; the input reads as it did. -/
def checkSafeUptoRow : OpenClaim := { program := "ytkjjkckcjgkhmaagreat", sum := "d4058e3bce460edfcd652cb0adf4b78c9d4b59aaae6a54360814ba9489efe1d7", func := "seamark/seamarklaw40.CheckSafe", spec := "checkSafe", unfollowed := true, recurses := true, apart := false, narrowed := true }
def CheckSafeUptoSaid : Prop := checkSafeUptoRow.holds Tryz.pinned (OpenSpec.upto checkSafeSpec)

/-- 'seamarklaw40.CheckSource', WHERE WHAT IT READS IS OF BULK AT MOST 1048576: true; the input reads as it did. -/
def checkSourceUptoRow : OpenClaim := { program := "ytkjjkckcjgkhmaagreat", sum := "d4058e3bce460edfcd652cb0adf4b78c9d4b59aaae6a54360814ba9489efe1d7", func := "seamark/seamarklaw40.CheckSource", spec := "checkSource", unfollowed := true, recurses := true, apart := false, narrowed := true }
def CheckSourceUptoSaid : Prop := checkSourceUptoRow.holds Tryz.pinned (OpenSpec.upto checkSourceSpec)

/-- 'seamarklaw40.CheckMatchesReference', WHERE WHAT IT READS IS OF BULK AT MOST 1048576: true; the input reads as it did. -/
def checkMatchesReferenceUptoRow : OpenClaim := { program := "ytkjjkckcjgkhmaagreat", sum := "d4058e3bce460edfcd652cb0adf4b78c9d4b59aaae6a54360814ba9489efe1d7", func := "seamark/seamarklaw40.CheckMatchesReference", spec := "checkMatchesReference", unfollowed := true, recurses := true, apart := false, narrowed := true }
def CheckMatchesReferenceUptoSaid : Prop := checkMatchesReferenceUptoRow.holds Tryz.pinned (OpenSpec.upto checkMatchesReferenceSpec)

end Rows
end Go.Proofs.YtkjjkckcjgkhmaaGreat
