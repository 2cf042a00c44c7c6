/- Chapter 38: the tree of plane.meet. -/
import Derived.Test.YtinfmmofcadjgaaCg0
set_option linter.unusedSimpArgs false
set_option linter.unusedVariables false
namespace Go.Proofs.Ytinfmmofcadjgaa
open Go.RowKit
-- term trMeet0: call Try.prog ctM [] 100 76 (symArgs 0 [pt, pt, pt, pt]) [] 0
def trMeet0 : TT OpR :=
(.ob (.tru (.fn 1 (.i (.var 0) (.i (.var 1) (.i (.var 2) (.i (.var 3) (.i (.var 4) (.i (.var 5) .nil))))))))
(.ob (.tru (.fn 1 (.i (.var 0) (.i (.var 1) (.i (.var 2) (.i (.var 3) (.i (.var 6) (.i (.var 7) .nil))))))))
(.ite (.cmp .lss (.ar .mul .i64 (.fn 0 (.i (.var 0) (.i (.var 1) (.i (.var 2) (.i (.var 3) (.i (.var 4) (.i (.var 5) .nil))))))) (.fn 0 (.i (.var 0) (.i (.var 1) (.i (.var 2) (.i (.var 3) (.i (.var 6) (.i (.var 7) .nil)))))))) (.lit 0))
  (.ob (.tru (.fn 1 (.i (.var 4) (.i (.var 5) (.i (.var 6) (.i (.var 7) (.i (.var 0) (.i (.var 1) .nil))))))))
  (.ob (.tru (.fn 1 (.i (.var 4) (.i (.var 5) (.i (.var 6) (.i (.var 7) (.i (.var 2) (.i (.var 3) .nil))))))))
  (.ite (.cmp .lss (.ar .mul .i64 (.fn 0 (.i (.var 4) (.i (.var 5) (.i (.var 6) (.i (.var 7) (.i (.var 0) (.i (.var 1) .nil))))))) (.fn 0 (.i (.var 4) (.i (.var 5) (.i (.var 6) (.i (.var 7) (.i (.var 2) (.i (.var 3) .nil)))))))) (.lit 0))
    (.ret ((.v (.one (.z (.bool (.lit true))))), [], 4))
    (.ob (.tru (.fn 1 (.i (.var 0) (.i (.var 1) (.i (.var 4) (.i (.var 5) (.i (.var 6) (.i (.var 7) .nil))))))))
    (.ite (.fn 4 (.i (.var 0) (.i (.var 1) (.i (.var 4) (.i (.var 5) (.i (.var 6) (.i (.var 7) .nil)))))))
      (.ret ((.v (.one (.z (.bool (.lit true))))), [], 4))
      (.ob (.tru (.fn 1 (.i (.var 2) (.i (.var 3) (.i (.var 4) (.i (.var 5) (.i (.var 6) (.i (.var 7) .nil))))))))
      (.ite (.fn 4 (.i (.var 2) (.i (.var 3) (.i (.var 4) (.i (.var 5) (.i (.var 6) (.i (.var 7) .nil)))))))
        (.ret ((.v (.one (.z (.bool (.lit true))))), [], 4))
        (.ob (.tru (.fn 1 (.i (.var 4) (.i (.var 5) (.i (.var 0) (.i (.var 1) (.i (.var 2) (.i (.var 3) .nil))))))))
        (.ite (.fn 4 (.i (.var 4) (.i (.var 5) (.i (.var 0) (.i (.var 1) (.i (.var 2) (.i (.var 3) .nil)))))))
          (.ret ((.v (.one (.z (.bool (.lit true))))), [], 4))
          (.ob (.tru (.fn 1 (.i (.var 6) (.i (.var 7) (.i (.var 0) (.i (.var 1) (.i (.var 2) (.i (.var 3) .nil))))))))
          (.ret ((.v (.one (.z (.bool (.fn 4 (.i (.var 6) (.i (.var 7) (.i (.var 0) (.i (.var 1) (.i (.var 2) (.i (.var 3) .nil))))))))))), [], 4))))))))))))
  (.ob (.tru (.fn 1 (.i (.var 0) (.i (.var 1) (.i (.var 4) (.i (.var 5) (.i (.var 6) (.i (.var 7) .nil))))))))
  (.ite (.fn 4 (.i (.var 0) (.i (.var 1) (.i (.var 4) (.i (.var 5) (.i (.var 6) (.i (.var 7) .nil)))))))
    (.ret ((.v (.one (.z (.bool (.lit true))))), [], 4))
    (.ob (.tru (.fn 1 (.i (.var 2) (.i (.var 3) (.i (.var 4) (.i (.var 5) (.i (.var 6) (.i (.var 7) .nil))))))))
    (.ite (.fn 4 (.i (.var 2) (.i (.var 3) (.i (.var 4) (.i (.var 5) (.i (.var 6) (.i (.var 7) .nil)))))))
      (.ret ((.v (.one (.z (.bool (.lit true))))), [], 4))
      (.ob (.tru (.fn 1 (.i (.var 4) (.i (.var 5) (.i (.var 0) (.i (.var 1) (.i (.var 2) (.i (.var 3) .nil))))))))
      (.ite (.fn 4 (.i (.var 4) (.i (.var 5) (.i (.var 0) (.i (.var 1) (.i (.var 2) (.i (.var 3) .nil)))))))
        (.ret ((.v (.one (.z (.bool (.lit true))))), [], 4))
        (.ob (.tru (.fn 1 (.i (.var 6) (.i (.var 7) (.i (.var 0) (.i (.var 1) (.i (.var 2) (.i (.var 3) .nil))))))))
        (.ret ((.v (.one (.z (.bool (.fn 4 (.i (.var 6) (.i (.var 7) (.i (.var 0) (.i (.var 1) (.i (.var 2) (.i (.var 3) .nil))))))))))), [], 4))))))))))))
-- end trMeet0
set_option maxRecDepth 100000 in
theorem trMeet0_is : T.norm 0 (call Try.prog ctM [] 100 76 (symArgs 0 [pt, pt, pt, pt]) [] 0) TT.ret = trMeet0 := by kernel_rfl
theorem trMeet0_low : trMeet0.low 1000 = true := by kernel_rfl
end Go.Proofs.Ytinfmmofcadjgaa
