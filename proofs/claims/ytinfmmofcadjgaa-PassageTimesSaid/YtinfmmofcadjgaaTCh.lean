/- Chapter 38: the tree of plane.Close. -/
import Derived.Test.YtinfmmofcadjgaaCg
set_option linter.unusedSimpArgs false
set_option linter.unusedVariables false
namespace Go.Proofs.Ytinfmmofcadjgaa
open Go.RowKit
-- term trClose: call Try.prog ct4 lt1 100 53 (symArgs 0 [pt, pt, pt, pt, it]) [] 0
def trClose : TT OpR :=
(.ite (.not (.fn 3 (.i (.var 0) (.i (.var 1) .nil))))
  (.ret ((.tup [(.one (.z (.bool (.lit false)))), (.one (.z (.int .i64 (.lit 1))))]), [], 7))
  (.ite (.not (.fn 3 (.i (.var 2) (.i (.var 3) .nil))))
    (.ret ((.tup [(.one (.z (.bool (.lit false)))), (.one (.z (.int .i64 (.lit 1))))]), [], 8))
    (.ite (.not (.fn 3 (.i (.var 4) (.i (.var 5) .nil))))
      (.ret ((.tup [(.one (.z (.bool (.lit false)))), (.one (.z (.int .i64 (.lit 1))))]), [], 9))
      (.ite (.not (.fn 3 (.i (.var 6) (.i (.var 7) .nil))))
        (.ret ((.tup [(.one (.z (.bool (.lit false)))), (.one (.z (.int .i64 (.lit 1))))]), [], 10))
        (.ite (.cmp .geq (.var 8) (.lit 0))
          (.ite (.not (.cmp .leq (.var 8) (.lit 3000000)))
            (.ret ((.tup [(.one (.z (.bool (.lit false)))), (.one (.z (.int .i64 (.lit 1))))]), [], 10))
            (.ob (.tru (.fn 5 (.i (.var 0) (.i (.var 1) (.i (.var 2) (.i (.var 3) (.i (.var 4) (.i (.var 5) (.i (.var 6) (.i (.var 7) .nil))))))))))
            (.ite (.fn 6 (.i (.var 0) (.i (.var 1) (.i (.var 2) (.i (.var 3) (.i (.var 4) (.i (.var 5) (.i (.var 6) (.i (.var 7) .nil)))))))))
              (.ret ((.tup [(.one (.z (.bool (.lit true)))), (.one (.z (.int .i64 (.lit 0))))]), [], 10))
              (.ob (.tru (.fn 1 (.i (.var 0) (.i (.var 1) (.i (.var 4) (.i (.var 5) (.i (.var 6) (.i (.var 7) .nil))))))))
              (.ob (.tru (.cmp .leq (.lit 0) (.var 8)))
              (.ob (.tru (.cmp .leq (.var 8) (.lit 3000000)))
              (.ite (.fn 2 (.i (.var 0) (.i (.var 1) (.i (.var 4) (.i (.var 5) (.i (.var 6) (.i (.var 7) (.i (.var 8) .nil))))))))
                (.ret ((.tup [(.one (.z (.bool (.lit true)))), (.one (.z (.int .i64 (.lit 0))))]), [], 14))
                (.ob (.tru (.fn 1 (.i (.var 2) (.i (.var 3) (.i (.var 4) (.i (.var 5) (.i (.var 6) (.i (.var 7) .nil))))))))
                (.ob (.tru (.cmp .leq (.lit 0) (.var 8)))
                (.ob (.tru (.cmp .leq (.var 8) (.lit 3000000)))
                (.ite (.fn 2 (.i (.var 2) (.i (.var 3) (.i (.var 4) (.i (.var 5) (.i (.var 6) (.i (.var 7) (.i (.var 8) .nil))))))))
                  (.ret ((.tup [(.one (.z (.bool (.lit true)))), (.one (.z (.int .i64 (.lit 0))))]), [], 15))
                  (.ob (.tru (.fn 1 (.i (.var 4) (.i (.var 5) (.i (.var 0) (.i (.var 1) (.i (.var 2) (.i (.var 3) .nil))))))))
                  (.ob (.tru (.cmp .leq (.lit 0) (.var 8)))
                  (.ob (.tru (.cmp .leq (.var 8) (.lit 3000000)))
                  (.ite (.fn 2 (.i (.var 4) (.i (.var 5) (.i (.var 0) (.i (.var 1) (.i (.var 2) (.i (.var 3) (.i (.var 8) .nil))))))))
                    (.ret ((.tup [(.one (.z (.bool (.lit true)))), (.one (.z (.int .i64 (.lit 0))))]), [], 19))
                    (.ob (.tru (.fn 1 (.i (.var 6) (.i (.var 7) (.i (.var 0) (.i (.var 1) (.i (.var 2) (.i (.var 3) .nil))))))))
                    (.ob (.tru (.cmp .leq (.lit 0) (.var 8)))
                    (.ob (.tru (.cmp .leq (.var 8) (.lit 3000000)))
                    (.ite (.fn 2 (.i (.var 6) (.i (.var 7) (.i (.var 0) (.i (.var 1) (.i (.var 2) (.i (.var 3) (.i (.var 8) .nil))))))))
                      (.ret ((.tup [(.one (.z (.bool (.lit true)))), (.one (.z (.int .i64 (.lit 0))))]), [], 20))
                      (.ret ((.tup [(.one (.z (.bool (.lit false)))), (.one (.z (.int .i64 (.lit 0))))]), [], 20)))))))))))))))))))))
          (.ret ((.tup [(.one (.z (.bool (.lit false)))), (.one (.z (.int .i64 (.lit 1))))]), [], 10)))))))
-- end trClose
set_option maxRecDepth 100000 in
theorem trClose_is : T.norm 0 (call Try.prog ct4 lt1 100 53 (symArgs 0 [pt, pt, pt, pt, it]) [] 0) TT.ret = trClose := by kernel_rfl
theorem trClose_low : trClose.low 1000 = true := by kernel_rfl
end Go.Proofs.Ytinfmmofcadjgaa
