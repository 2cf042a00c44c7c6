/- LCla, merged: TVr, Vr. -/
import Derived.Test.YtldbejmgalhdaaaGreatHJ
set_option linter.unusedSimpArgs false
set_option linter.unusedVariables false
/- Chapter 09: the tree of the law SurveyClashes. -/
namespace Go.Proofs.YtldbejmgalhdaaaGreat
open Go.RowKit
end Go.Proofs.YtldbejmgalhdaaaGreat
/- Chapter 09: the law SurveyClashes. -/
namespace Go.Proofs.YtldbejmgalhdaaaGreat
open Go.RowKit
theorem KVdi160 (W : World) (ds l : List D) : (envOf KVd W ds).fi 160 l = scE l := by simp only [envOf, KVd, KVc]
end Go.Proofs.YtldbejmgalhdaaaGreat
