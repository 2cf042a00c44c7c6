/- Chapter 38: the tree of span.Valid. -/
import Derived.Test.YtinfmmofcadjgaaCh
set_option linter.unusedSimpArgs false
set_option linter.unusedVariables false
namespace Go.Proofs.Ytinfmmofcadjgaa
open Go.RowKit
def sp : Sh := .agg [.int .i64, .int .i64]
def bx : Sh := .agg [.int .i64, .int .i64, .int .i64, .int .i64]
-- term trSpV: call Try.prog [] [] 100 70 (symArgs 0 [sp]) [] 0
def trSpV : TT OpR :=
(.ite (.cmp .leq (.lit (-1000000000000)) (.var 0))
  (.ite (.cmp .leq (.var 0) (.var 1))
    (.ret ((.v (.one (.z (.bool (.cmp .leq (.var 1) (.lit 1000000000000)))))), [], 1))
    (.ret ((.v (.one (.z (.bool (.lit false))))), [], 1)))
  (.ret ((.v (.one (.z (.bool (.lit false))))), [], 1)))
-- end trSpV
set_option maxRecDepth 100000 in
theorem trSpV_is : T.norm 0 (call Try.prog [] [] 100 70 (symArgs 0 [sp]) [] 0) TT.ret = trSpV := by kernel_rfl
theorem trSpV_low : trSpV.low 1000 = true := by kernel_rfl
end Go.Proofs.Ytinfmmofcadjgaa
