/- LTru, merged: TVv, Vv. -/
import Derived.Test.YtldbejmgalhdaaaGreatLLea
set_option linter.unusedSimpArgs false
set_option linter.unusedVariables false
/- Chapter 09: the tree of the law SurveyTrue. -/
namespace Go.Proofs.YtldbejmgalhdaaaGreat
open Go.RowKit
end Go.Proofs.YtldbejmgalhdaaaGreat
/- Chapter 09: the law SurveyTrue. -/
namespace Go.Proofs.YtldbejmgalhdaaaGreat
open Go.RowKit
end Go.Proofs.YtldbejmgalhdaaaGreat
