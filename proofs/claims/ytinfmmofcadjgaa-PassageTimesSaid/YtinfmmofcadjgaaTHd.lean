/- Chapter 38: the tree of the law's head: the examples of the chapter. -/
import Derived.Test.YtinfmmofcadjgaaCn
set_option linter.unusedSimpArgs false
set_option linter.unusedVariables false
namespace Go.Proofs.Ytinfmmofcadjgaa
open Go.RowKit
-- term trHead: call Try.prog ct7 [(36, 0)] 100 10 [] [] 0
def trHead : TT OpR :=
(.ret ((.v (.one (.z (.bool (.lit true))))), [], 28))
-- end trHead
set_option maxRecDepth 100000 in
theorem trHead_is : T.norm 0 (call Try.prog ct7 [(36, 0)] 100 10 [] [] 0) TT.ret = trHead := by kernel_rfl
theorem trHead_low : trHead.low 1000 = true := by kernel_rfl
end Go.Proofs.Ytinfmmofcadjgaa
