/- Chapter 38: the tree of span.ValidBox. -/
import Derived.Test.YtinfmmofcadjgaaCi
set_option linter.unusedSimpArgs false
set_option linter.unusedVariables false
namespace Go.Proofs.Ytinfmmofcadjgaa
open Go.RowKit
-- term trBoxV: call Try.prog ctS [] 100 42 (symArgs 0 [bx]) [] 0
def trBoxV : TT OpR :=
(.ite (.not (.fn 30 (.i (.var 0) (.i (.var 1) .nil))))
  (.ite (.not (.fn 30 (.i (.var 2) (.i (.var 3) .nil))))
    (.ret ((.v (.one (.z (.bool (.lit false))))), [], 14))
    (.ret ((.v (.one (.z (.bool (.lit false))))), [], 14)))
  (.ite (.not (.fn 30 (.i (.var 2) (.i (.var 3) .nil))))
    (.ret ((.v (.one (.z (.bool (.lit false))))), [], 14))
    (.ite (.and (.cmp .eql (.mn (.var 0) (.lit (-1000000))) (.lit (-1000000))) (.cmp .eql (.mx (.var 1) (.lit 1000000)) (.lit 1000000)))
      (.ret ((.v (.one (.z (.bool (.and (.cmp .eql (.mn (.var 2) (.lit (-1000000))) (.lit (-1000000))) (.cmp .eql (.mx (.var 3) (.lit 1000000)) (.lit 1000000))))))), [], 14))
      (.ret ((.v (.one (.z (.bool (.lit false))))), [], 14)))))
-- end trBoxV
set_option maxRecDepth 100000 in
theorem trBoxV_is : T.norm 0 (call Try.prog ctS [] 100 42 (symArgs 0 [bx]) [] 0) TT.ret = trBoxV := by kernel_rfl
theorem trBoxV_low : trBoxV.low 1000 = true := by kernel_rfl
end Go.Proofs.Ytinfmmofcadjgaa
