/- MO, merged: TWc, Wf. -/
import Derived.Test.YtcjaembdcfppfaaGreatMW
set_option linter.unusedSimpArgs false
set_option linter.unusedVariables false
namespace Go.Proofs.YtcjaembdcfppfaaGreat
open Go.RowKit
def wiO(ds:List D):Bool:=j6 (b9 ds 0)&&(f9 (a7 ds 1) (a7 ds 2)&&f9 (a7 ds 3) (a7 ds 4))
def KWc:Interp where
 fi n l:=match n with | 124=>pbA l | 125=>pbB l | 126=>pbC l | 127=>pbD l | 128=>pbE l | n=>KWb.fi n l
 fb n l:=match n with | 122=>phL l | 123=>wiO l | n=>KWb.fb n l
 fd _ _:=[]
theorem c8y{ρ:Env}(h:Sees ρ KWc 132):Sees ρ KWb 122:=h.trans (by decide) fun n l hn=>by
 refine⟨?_,?_⟩
 ·
  simp only[KWc]
  split<;>first | omega | rfl
 ·
  simp only[KWc]
  split<;>first | omega | rfl
def c4a:Ct:=d1h
theorem b6o{ρ:Env}(h:Sees ρ KWc 132):CtOk Tryz.prog ρ c4a:=(c8w (c8y h))
end Go.Proofs.YtcjaembdcfppfaaGreat
