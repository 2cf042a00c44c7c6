/- HD, merged: TVg. -/
import Derived.Test.YtldbejmgalhdaaaGreatHA
set_option linter.unusedSimpArgs false
set_option linter.unusedVariables false
namespace Go.Proofs.YtldbejmgalhdaaaGreat
open Go.RowKit
def c2L:TT j6:=
(.ob (.tru (.lit true))
(.ob (.tru (.lit true))
(.ob (.tru (.lit true))
(.ob (.tru (.lit true))
(.ob (.tru (.lit true))
(.ob (.tru (.lit true))
(.ob (.tru (.lit true))
(.ob (.tru (.lit true))
(.ob (.tru (.lit true))
(.ob (.tru (.lit true))
(.ob (.tru (.lit true))
(.ob (.tru (.lit true))
(.ob (.tru (.lit true))
(.ob (.tru (.lit true))
(.ob (.tru (.lit true))
(.ob (.tru (.lit true))
(.ob (.tru (.lit true))
(.ob (.tru (.lit true))
(.ob (.tru (.lit true))
(.ob (.tru (.lit true))
(.ob (.tru (.lit true))
(.ret ((.v (.one (.z (.bool (.lit false))))),[],281)))))))))))))))))))))))
set_option maxRecDepth 100000 in
theorem c7Z:T.norm 0 (call Tryz.prog a2G (Lt.of []) 250 40 [iV .i64 (.lit 9),iV .i64 (.lit 0),iV .i64 (.lit 25)] [] 0) TT.ret=c2L:=by kernel_rfl
theorem c4F:c2L.low 1000=true:=by kernel_rfl
def c2m:TT j6:=
(.ob (.tru (.lit true))
(.ob (.tru (.lit true))
(.ob (.tru (.lit true))
(.ob (.tru (.lit true))
(.ob (.tru (.lit true))
(.ob (.tru (.lit true))
(.ob (.tru (.lit true))
(.ob (.tru (.lit true))
(.ob (.tru (.lit true))
(.ob (.tru (.lit true))
(.ob (.tru (.lit true))
(.ob (.tru (.lit true))
(.ob (.tru (.lit true))
(.ob (.tru (.lit true))
(.ob (.tru (.lit true))
(.ob (.tru (.lit true))
(.ob (.tru (.lit true))
(.ob (.tru (.lit true))
(.ob (.tru (.lit true))
(.ret ((.v (.one (.z (.bool (.lit false))))),[],237)))))))))))))))))))))
set_option maxRecDepth 100000 in
theorem c8a:T.norm 0 (call Tryz.prog a2G (Lt.of []) 250 40 [iV .i64 (.lit 9),iV .i64 (.lit 0),iV .i64 (.lit 40)] [] 0) TT.ret=c2m:=by kernel_rfl
theorem c7n:c2m.low 1000=true:=by kernel_rfl
def c2p:TT j6:=
(.ob (.tru (.lit true))
(.ob (.tru (.lit true))
(.ob (.tru (.lit true))
(.ob (.tru (.lit true))
(.ob (.tru (.lit true))
(.ob (.tru (.lit true))
(.ob (.tru (.lit true))
(.ob (.tru (.lit true))
(.ob (.tru (.lit true))
(.ob (.tru (.lit true))
(.ob (.tru (.lit true))
(.ob (.tru (.lit true))
(.ob (.tru (.lit true))
(.ob (.tru (.lit true))
(.ob (.tru (.lit true))
(.ob (.tru (.lit true))
(.ob (.tru (.lit true))
(.ob (.tru (.lit true))
(.ob (.tru (.lit true))
(.ob (.tru (.lit true))
(.ob (.tru (.lit true))
(.ret ((.v (.one (.z (.bool (.lit true))))),[],323)))))))))))))))))))))))
set_option maxRecDepth 100000 in
theorem c9H:T.norm 0 (call Tryz.prog a2G (Lt.of []) 250 40 [iV .i64 (.lit 30),iV .i64 (.lit 0),iV .i64 (.lit 0)] [] 0) TT.ret=c2p:=by kernel_rfl
theorem c5f:c2p.low 1000=true:=by kernel_rfl
end Go.Proofs.YtldbejmgalhdaaaGreat
