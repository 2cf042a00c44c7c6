/- LRep, merged: TVw, Vw. -/
import Derived.Test.YtldbejmgalhdaaaGreatLEqu
import Derived.Test.YtldbejmgalhdaaaGreatLTru
set_option linter.unusedSimpArgs false
set_option linter.unusedVariables false
/- Chapter 09: the tree of the law SurveyReplaced. -/
namespace Go.Proofs.YtldbejmgalhdaaaGreat
open Go.RowKit
end Go.Proofs.YtldbejmgalhdaaaGreat
/- Chapter 09: the law SurveyReplaced. -/
namespace Go.Proofs.YtldbejmgalhdaaaGreat
open Go.RowKit
/-! Without a sounding that is replaced -/
theorem KVfb136 (W : World) (ds l : List D) : (envOf KVf W ds).fb 136 l = risL l := by simp only [envOf, KVf, KVe, KVd, KVc, KVb, KVa]
theorem KVfi135 (W : World) (ds l : List D) : (envOf KVf W ds).fi 135 l = lowL l := by simp only [envOf, KVf, KVe, KVd, KVc, KVb, KVa]
end Go.Proofs.YtldbejmgalhdaaaGreat
