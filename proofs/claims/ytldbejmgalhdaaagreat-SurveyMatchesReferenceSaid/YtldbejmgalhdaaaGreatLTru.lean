/- LTru, merged: TVv, Vv. -/
import Derived.Test.YtldbejmgalhdaaaGreatLLea
set_option linter.unusedSimpArgs false
set_option linter.unusedVariables false
namespace Go.Proofs.YtldbejmgalhdaaaGreat
open Go.RowKit
end Go.Proofs.YtldbejmgalhdaaaGreat
