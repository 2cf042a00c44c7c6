/- MR, merged: TWg, Wk. -/
import Derived.Test.YtcjaembdcfppfaaGreatMX
set_option linter.unusedSimpArgs false
set_option linter.unusedVariables false
namespace Go.Proofs.YtcjaembdcfppfaaGreat
open Go.RowKit
def K82:Interp where
 fi n l:=W8.fi n l
 fb n l:=match n with | 134=>M7 l | n=>W8.fb n l
 fd _ _:=[]
theorem d0f{ρ:Env}(h:Sees ρ K82 136):Sees ρ W8 134:=h.trans (by decide) fun n l hn=>by
 refine⟨?_,?_⟩
 ·
  rfl
 ·
  simp only[K82]
  split<;>first | omega | rfl
end Go.Proofs.YtcjaembdcfppfaaGreat
