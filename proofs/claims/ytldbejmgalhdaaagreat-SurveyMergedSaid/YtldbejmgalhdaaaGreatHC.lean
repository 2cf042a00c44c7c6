/- HC, merged: TVf. -/
import Derived.Test.YtldbejmgalhdaaaGreatHA
set_option linter.unusedSimpArgs false
set_option linter.unusedVariables false
/- Chapter 09: trees of the head's calls with places that are spelt out, 2. -/
namespace Go.Proofs.YtldbejmgalhdaaaGreat
open Go.RowKit
-- term trAl1: call Tryz.prog ctVi (Lt.of []) 250 40 [iV .i64 (.lit 0), iV .i64 (.lit (-5)), iV .i64 (.lit 25)] [] 0
def trAl1 : TT OpR :=
(.ob (.tru (.lit true))
(.ob (.tru (.lit true))
(.ob (.tru (.lit true))
(.ob (.tru (.lit true))
(.ob (.tru (.lit true))
(.ob (.tru (.lit true))
(.ob (.tru (.lit true))
(.ob (.tru (.lit true))
(.ob (.tru (.lit true))
(.ob (.tru (.lit true))
(.ob (.tru (.lit true))
(.ob (.tru (.lit true))
(.ob (.tru (.lit true))
(.ob (.tru (.lit true))
(.ob (.tru (.lit true))
(.ob (.tru (.lit true))
(.ob (.tru (.lit true))
(.ob (.tru (.lit true))
(.ob (.tru (.lit true))
(.ob (.tru (.lit true))
(.ob (.tru (.lit true))
(.ret ((.v (.one (.z (.bool (.lit true))))), [], 323)))))))))))))))))))))))
-- end trAl1
set_option maxRecDepth 100000 in
theorem trAl1_is : T.norm 0 (call Tryz.prog ctVi (Lt.of []) 250 40 [iV .i64 (.lit 0), iV .i64 (.lit (-5)), iV .i64 (.lit 25)] [] 0) TT.ret = trAl1 := by kernel_rfl
theorem trAl1_low : trAl1.low 1000 = true := by kernel_rfl
-- term trAl2: call Tryz.prog ctVi (Lt.of []) 250 40 [iV .i64 (.lit 0), iV .i64 (.lit (-5)), iV .i64 (.lit 29)] [] 0
def trAl2 : TT OpR :=
(.ob (.tru (.lit true))
(.ob (.tru (.lit true))
(.ob (.tru (.lit true))
(.ob (.tru (.lit true))
(.ob (.tru (.lit true))
(.ob (.tru (.lit true))
(.ob (.tru (.lit true))
(.ob (.tru (.lit true))
(.ob (.tru (.lit true))
(.ob (.tru (.lit true))
(.ob (.tru (.lit true))
(.ob (.tru (.lit true))
(.ob (.tru (.lit true))
(.ob (.tru (.lit true))
(.ob (.tru (.lit true))
(.ob (.tru (.lit true))
(.ob (.tru (.lit true))
(.ob (.tru (.lit true))
(.ob (.tru (.lit true))
(.ret ((.v (.one (.z (.bool (.lit false))))), [], 237)))))))))))))))))))))
-- end trAl2
set_option maxRecDepth 100000 in
theorem trAl2_is : T.norm 0 (call Tryz.prog ctVi (Lt.of []) 250 40 [iV .i64 (.lit 0), iV .i64 (.lit (-5)), iV .i64 (.lit 29)] [] 0) TT.ret = trAl2 := by kernel_rfl
theorem trAl2_low : trAl2.low 1000 = true := by kernel_rfl
-- term trAl3: call Tryz.prog ctVi (Lt.of []) 250 40 [iV .i64 (.lit 0), iV .i64 (.lit (-5)), iV .i64 (.lit 24)] [] 0
def trAl3 : TT OpR :=
(.ob (.tru (.lit true))
(.ob (.tru (.lit true))
(.ob (.tru (.lit true))
(.ob (.tru (.lit true))
(.ob (.tru (.lit true))
(.ob (.tru (.lit true))
(.ob (.tru (.lit true))
(.ob (.tru (.lit true))
(.ob (.tru (.lit true))
(.ob (.tru (.lit true))
(.ob (.tru (.lit true))
(.ob (.tru (.lit true))
(.ob (.tru (.lit true))
(.ob (.tru (.lit true))
(.ob (.tru (.lit true))
(.ob (.tru (.lit true))
(.ob (.tru (.lit true))
(.ob (.tru (.lit true))
(.ob (.tru (.lit true))
(.ret ((.v (.one (.z (.bool (.lit false))))), [], 237)))))))))))))))))))))
-- end trAl3
set_option maxRecDepth 100000 in
theorem trAl3_is : T.norm 0 (call Tryz.prog ctVi (Lt.of []) 250 40 [iV .i64 (.lit 0), iV .i64 (.lit (-5)), iV .i64 (.lit 24)] [] 0) TT.ret = trAl3 := by kernel_rfl
theorem trAl3_low : trAl3.low 1000 = true := by kernel_rfl
end Go.Proofs.YtldbejmgalhdaaaGreat
