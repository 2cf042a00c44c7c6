/- HD, merged: TVg. -/
import Derived.Test.YtldbejmgalhdaaaGreatHA
set_option linter.unusedSimpArgs false
set_option linter.unusedVariables false
/- Chapter 09: trees of the head's calls with places that are spelt out, 3. -/
namespace Go.Proofs.YtldbejmgalhdaaaGreat
open Go.RowKit
-- term trAl4: call Tryz.prog ctVi (Lt.of []) 250 40 [iV .i64 (.lit 9), iV .i64 (.lit 0), iV .i64 (.lit 25)] [] 0
def trAl4 : TT OpR :=
(.ob (.tru (.lit true))
(.ob (.tru (.lit true))
(.ob (.tru (.lit true))
(.ob (.tru (.lit true))
(.ob (.tru (.lit true))
(.ob (.tru (.lit true))
(.ob (.tru (.lit true))
(.ob (.tru (.lit true))
(.ob (.tru (.lit true))
(.ob (.tru (.lit true))
(.ob (.tru (.lit true))
(.ob (.tru (.lit true))
(.ob (.tru (.lit true))
(.ob (.tru (.lit true))
(.ob (.tru (.lit true))
(.ob (.tru (.lit true))
(.ob (.tru (.lit true))
(.ob (.tru (.lit true))
(.ob (.tru (.lit true))
(.ob (.tru (.lit true))
(.ob (.tru (.lit true))
(.ret ((.v (.one (.z (.bool (.lit false))))), [], 281)))))))))))))))))))))))
-- end trAl4
set_option maxRecDepth 100000 in
theorem trAl4_is : T.norm 0 (call Tryz.prog ctVi (Lt.of []) 250 40 [iV .i64 (.lit 9), iV .i64 (.lit 0), iV .i64 (.lit 25)] [] 0) TT.ret = trAl4 := by kernel_rfl
theorem trAl4_low : trAl4.low 1000 = true := by kernel_rfl
-- term trAl5: call Tryz.prog ctVi (Lt.of []) 250 40 [iV .i64 (.lit 9), iV .i64 (.lit 0), iV .i64 (.lit 40)] [] 0
def trAl5 : TT OpR :=
(.ob (.tru (.lit true))
(.ob (.tru (.lit true))
(.ob (.tru (.lit true))
(.ob (.tru (.lit true))
(.ob (.tru (.lit true))
(.ob (.tru (.lit true))
(.ob (.tru (.lit true))
(.ob (.tru (.lit true))
(.ob (.tru (.lit true))
(.ob (.tru (.lit true))
(.ob (.tru (.lit true))
(.ob (.tru (.lit true))
(.ob (.tru (.lit true))
(.ob (.tru (.lit true))
(.ob (.tru (.lit true))
(.ob (.tru (.lit true))
(.ob (.tru (.lit true))
(.ob (.tru (.lit true))
(.ob (.tru (.lit true))
(.ret ((.v (.one (.z (.bool (.lit false))))), [], 237)))))))))))))))))))))
-- end trAl5
set_option maxRecDepth 100000 in
theorem trAl5_is : T.norm 0 (call Tryz.prog ctVi (Lt.of []) 250 40 [iV .i64 (.lit 9), iV .i64 (.lit 0), iV .i64 (.lit 40)] [] 0) TT.ret = trAl5 := by kernel_rfl
theorem trAl5_low : trAl5.low 1000 = true := by kernel_rfl
-- term trAl6: call Tryz.prog ctVi (Lt.of []) 250 40 [iV .i64 (.lit 30), iV .i64 (.lit 0), iV .i64 (.lit 0)] [] 0
def trAl6 : TT OpR :=
(.ob (.tru (.lit true))
(.ob (.tru (.lit true))
(.ob (.tru (.lit true))
(.ob (.tru (.lit true))
(.ob (.tru (.lit true))
(.ob (.tru (.lit true))
(.ob (.tru (.lit true))
(.ob (.tru (.lit true))
(.ob (.tru (.lit true))
(.ob (.tru (.lit true))
(.ob (.tru (.lit true))
(.ob (.tru (.lit true))
(.ob (.tru (.lit true))
(.ob (.tru (.lit true))
(.ob (.tru (.lit true))
(.ob (.tru (.lit true))
(.ob (.tru (.lit true))
(.ob (.tru (.lit true))
(.ob (.tru (.lit true))
(.ob (.tru (.lit true))
(.ob (.tru (.lit true))
(.ret ((.v (.one (.z (.bool (.lit true))))), [], 323)))))))))))))))))))))))
-- end trAl6
set_option maxRecDepth 100000 in
theorem trAl6_is : T.norm 0 (call Tryz.prog ctVi (Lt.of []) 250 40 [iV .i64 (.lit 30), iV .i64 (.lit 0), iV .i64 (.lit 0)] [] 0) TT.ret = trAl6 := by kernel_rfl
theorem trAl6_low : trAl6.low 1000 = true := by kernel_rfl
end Go.Proofs.YtldbejmgalhdaaaGreat
