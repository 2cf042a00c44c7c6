/- LCla, merged: TVr, Vr. -/
import Derived.Test.YtldbejmgalhdaaaGreatHJ
set_option linter.unusedSimpArgs false
set_option linter.unusedVariables false
namespace Go.Proofs.YtldbejmgalhdaaaGreat
open Go.RowKit
theorem d1D(W:World)(ds l:List D):(f0 t6 W ds).fi 160 l=C7 l:=by simp only[f0,t6,p9]
end Go.Proofs.YtldbejmgalhdaaaGreat
