/- LRep, merged: TVw, Vw. -/
import Derived.Test.YtldbejmgalhdaaaGreatLEqu
import Derived.Test.YtldbejmgalhdaaaGreatLTru
set_option linter.unusedSimpArgs false
set_option linter.unusedVariables false
namespace Go.Proofs.YtldbejmgalhdaaaGreat
open Go.RowKit
theorem b9m(W:World)(ds l:List D):(f0 y3 W ds).fb 136 l=a5a l:=by simp only[f0,y3,B1,t6,p9,v8,t7]
theorem d1L(W:World)(ds l:List D):(f0 y3 W ds).fi 135 l=a1H l:=by simp only[f0,y3,B1,t6,p9,v8,t7]
end Go.Proofs.YtldbejmgalhdaaaGreat
