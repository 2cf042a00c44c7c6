/- LMod, merged: TVs, Vs. -/
import Derived.Test.YtldbejmgalhdaaaGreatHJ
import Derived.Test.YtldbejmgalhdaaaGreatLCla
set_option linter.unusedSimpArgs false
set_option linter.unusedVariables false
/- Chapter 09: the tree of the law SurveyModel. -/
namespace Go.Proofs.YtldbejmgalhdaaaGreat
open Go.RowKit
end Go.Proofs.YtldbejmgalhdaaaGreat
/- Chapter 09: the law SurveyModel. -/
namespace Go.Proofs.YtldbejmgalhdaaaGreat
open Go.RowKit
theorem mdr_two (s F : Rows) : mdR [.l s, .l F] = if surB s F = true then mdS s F else [] := rfl
def sameR9 (a b : List D) : Bool := sameB (cI a 0) (cI a 1) (cI a 2) (cI a 3) (cI a 4) (cR a 5) (cI a 6) (cI a 7) (cR a 8) (cI b 0) (cI b 1) (cI b 2) (cI b 3) (cI b 4) (cR b 5) (cI b 6) (cI b 7) (cR b 8)
theorem same_18 (a1 a2 a3 a4 a5 : Int) (a6 : Rows) (a7 a8 : Int) (a9 : Rows) (b1 b2 b3 b4 b5 : Int) (b6 : Rows) (b7 b8 : Int) (b9 : Rows) : sameL [.i a1, .i a2, .i a3, .i a4, .i a5, .l a6, .i a7, .i a8, .l a9, .i b1, .i b2, .i b3, .i b4, .i b5, .l b6, .i b7, .i b8, .l b9] = sameB a1 a2 a3 a4 a5 a6 a7 a8 a9 b1 b2 b3 b4 b5 b6 b7 b8 b9 := rfl
theorem same_self9 (a : List D) : sameR9 a a = true := by
  unfold sameR9 sameB
  rw [eqX_iff.2 ⟨rfl, fun _ _ _ _ => rfl⟩, eqX_iff.2 ⟨rfl, fun _ _ _ _ => rfl⟩, decide_eq_true (by simp)]
  rfl
/-! Counting -/
/-! The model -/
theorem KVdd2 (W : World) (ds l : List D) : (envOf KVd W ds).fd 2 l = mdR l := by simp only [envOf, KVd]
end Go.Proofs.YtldbejmgalhdaaaGreat
