/- HC, merged: TVf. -/
import Derived.Test.YtldbejmgalhdaaaGreatHA
set_option linter.unusedSimpArgs false
set_option linter.unusedVariables false
namespace Go.Proofs.YtldbejmgalhdaaaGreat
open Go.RowKit
def c1D:TT j6:=
(.ob (.tru (.lit true))
(.ob (.tru (.lit true))
(.ob (.tru (.lit true))
(.ob (.tru (.lit true))
(.ob (.tru (.lit true))
(.ob (.tru (.lit true))
(.ob (.tru (.lit true))
(.ob (.tru (.lit true))
(.ob (.tru (.lit true))
(.ob (.tru (.lit true))
(.ob (.tru (.lit true))
(.ob (.tru (.lit true))
(.ob (.tru (.lit true))
(.ob (.tru (.lit true))
(.ob (.tru (.lit true))
(.ob (.tru (.lit true))
(.ob (.tru (.lit true))
(.ob (.tru (.lit true))
(.ob (.tru (.lit true))
(.ob (.tru (.lit true))
(.ob (.tru (.lit true))
(.ret ((.v (.one (.z (.bool (.lit true))))),[],323)))))))))))))))))))))))
set_option maxRecDepth 100000 in
theorem c8C:T.norm 0 (call Tryz.prog a2G (Lt.of []) 250 40 [iV .i64 (.lit 0),iV .i64 (.lit (-5)),iV .i64 (.lit 25)] [] 0) TT.ret=c1D:=by kernel_rfl
theorem c5M:c1D.low 1000=true:=by kernel_rfl
def c2h:TT j6:=
(.ob (.tru (.lit true))
(.ob (.tru (.lit true))
(.ob (.tru (.lit true))
(.ob (.tru (.lit true))
(.ob (.tru (.lit true))
(.ob (.tru (.lit true))
(.ob (.tru (.lit true))
(.ob (.tru (.lit true))
(.ob (.tru (.lit true))
(.ob (.tru (.lit true))
(.ob (.tru (.lit true))
(.ob (.tru (.lit true))
(.ob (.tru (.lit true))
(.ob (.tru (.lit true))
(.ob (.tru (.lit true))
(.ob (.tru (.lit true))
(.ob (.tru (.lit true))
(.ob (.tru (.lit true))
(.ob (.tru (.lit true))
(.ret ((.v (.one (.z (.bool (.lit false))))),[],237)))))))))))))))))))))
set_option maxRecDepth 100000 in
theorem c7J:T.norm 0 (call Tryz.prog a2G (Lt.of []) 250 40 [iV .i64 (.lit 0),iV .i64 (.lit (-5)),iV .i64 (.lit 29)] [] 0) TT.ret=c2h:=by kernel_rfl
theorem c5c:c2h.low 1000=true:=by kernel_rfl
def c2f:TT j6:=
(.ob (.tru (.lit true))
(.ob (.tru (.lit true))
(.ob (.tru (.lit true))
(.ob (.tru (.lit true))
(.ob (.tru (.lit true))
(.ob (.tru (.lit true))
(.ob (.tru (.lit true))
(.ob (.tru (.lit true))
(.ob (.tru (.lit true))
(.ob (.tru (.lit true))
(.ob (.tru (.lit true))
(.ob (.tru (.lit true))
(.ob (.tru (.lit true))
(.ob (.tru (.lit true))
(.ob (.tru (.lit true))
(.ob (.tru (.lit true))
(.ob (.tru (.lit true))
(.ob (.tru (.lit true))
(.ob (.tru (.lit true))
(.ret ((.v (.one (.z (.bool (.lit false))))),[],237)))))))))))))))))))))
set_option maxRecDepth 100000 in
theorem c8i:T.norm 0 (call Tryz.prog a2G (Lt.of []) 250 40 [iV .i64 (.lit 0),iV .i64 (.lit (-5)),iV .i64 (.lit 24)] [] 0) TT.ret=c2f:=by kernel_rfl
theorem c4y:c2f.low 1000=true:=by kernel_rfl
end Go.Proofs.YtldbejmgalhdaaaGreat
