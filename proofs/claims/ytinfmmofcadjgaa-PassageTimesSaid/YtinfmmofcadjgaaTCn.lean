/- Chapter 38: the tree of passage.Concerns. -/
import Derived.Test.YtinfmmofcadjgaaCm
set_option linter.unusedSimpArgs false
set_option linter.unusedVariables false
namespace Go.Proofs.Ytinfmmofcadjgaa
open Go.RowKit
-- term trCon: call Try.prog ct6 [(36, 0)] 100 18 (symArgs 0 [psg, bx, it]) [] 0
def trCon : TT OpR :=
(.ite (.not (.fn 20 (.i (.var 0) (.i (.var 1) (.i (.var 2) (.x (.var 3) .nil))))))
  (.ret ((.tup [(.one (.z (.bool (.lit false)))), (.one (.z (.int .i64 (.lit 1))))]), [], 2))
  (.ite (.not (.fn 31 (.i (.var 4) (.i (.var 5) (.i (.var 6) (.i (.var 7) .nil))))))
    (.ret ((.tup [(.one (.z (.bool (.lit false)))), (.one (.z (.int .i64 (.lit 1))))]), [], 2))
    (.ite (.cmp .lss (.var 8) (.lit 0))
      (.ret ((.tup [(.one (.z (.bool (.lit false)))), (.one (.z (.int .i64 (.lit 1))))]), [], 2))
      (.ite (.cmp .gtr (.var 8) (.len (.var 3)))
        (.ret ((.tup [(.one (.z (.bool (.lit false)))), (.one (.z (.int .i64 (.lit 1))))]), [], 2))
        (.ob (.tru (.cmp .leq (.lit 0) (.var 8)))
        (.ob (.tru (.cmp .leq (.var 8) (.len (.var 3))))
        (.ob (.tru (.lit true))
        (.loop 0 4000 ⟨[(0, (.lit 0))], [], []⟩
          (.ite (.cmp .lss (.var 4000) (.len (.sub (.var 3) (.var 8) (.len (.var 3)))))
            (.ob (.tru (.cmp .leq (.lit 0) (.var 4000)))
            (.ob (.tru (.cmp .lss (.var 4000) (.len (.sub (.var 3) (.var 8) (.len (.var 3))))))
            (.ite (.fn 51 (.i (.rd (.sub (.var 3) (.var 8) (.len (.var 3))) (.var 4000) 0) (.i (.rd (.sub (.var 3) (.var 8) (.len (.var 3))) (.var 4000) 0) (.i (.rd (.sub (.var 3) (.var 8) (.len (.var 3))) (.var 4000) 1) (.i (.rd (.sub (.var 3) (.var 8) (.len (.var 3))) (.var 4000) 1) (.i (.var 4) (.i (.var 5) (.i (.var 6) (.i (.var 7) .nil)))))))))
              (.ret ((.tup [(.one (.z (.bool (.lit true)))), (.one (.z (.int .i64 (.lit 0))))]), [], 14))
              (.ite (.fn 8 (.i (.rd (.sub (.var 3) (.var 8) (.len (.var 3))) (.var 4000) 0) (.i (.rd (.sub (.var 3) (.var 8) (.len (.var 3))) (.var 4000) 1) (.i (.rd (.sub (.var 3) (.var 8) (.len (.var 3))) (.var 4000) 2) (.i (.rd (.sub (.var 3) (.var 8) (.len (.var 3))) (.var 4000) 3) (.i (.var 4) (.i (.var 7) (.i (.var 4) (.i (.var 6) (.i (.var 2) .nil))))))))))
                (.ret ((.tup [(.one (.z (.bool (.lit true)))), (.one (.z (.int .i64 (.lit 0))))]), [], 14))
                (.ite (.fn 8 (.i (.rd (.sub (.var 3) (.var 8) (.len (.var 3))) (.var 4000) 0) (.i (.rd (.sub (.var 3) (.var 8) (.len (.var 3))) (.var 4000) 1) (.i (.rd (.sub (.var 3) (.var 8) (.len (.var 3))) (.var 4000) 2) (.i (.rd (.sub (.var 3) (.var 8) (.len (.var 3))) (.var 4000) 3) (.i (.var 4) (.i (.var 6) (.i (.var 5) (.i (.var 6) (.i (.var 2) .nil))))))))))
                  (.ret ((.tup [(.one (.z (.bool (.lit true)))), (.one (.z (.int .i64 (.lit 0))))]), [], 14))
                  (.ite (.fn 8 (.i (.rd (.sub (.var 3) (.var 8) (.len (.var 3))) (.var 4000) 0) (.i (.rd (.sub (.var 3) (.var 8) (.len (.var 3))) (.var 4000) 1) (.i (.rd (.sub (.var 3) (.var 8) (.len (.var 3))) (.var 4000) 2) (.i (.rd (.sub (.var 3) (.var 8) (.len (.var 3))) (.var 4000) 3) (.i (.var 5) (.i (.var 6) (.i (.var 5) (.i (.var 7) (.i (.var 2) .nil))))))))))
                    (.ret ((.tup [(.one (.z (.bool (.lit true)))), (.one (.z (.int .i64 (.lit 0))))]), [], 14))
                    (.ite (.fn 8 (.i (.rd (.sub (.var 3) (.var 8) (.len (.var 3))) (.var 4000) 0) (.i (.rd (.sub (.var 3) (.var 8) (.len (.var 3))) (.var 4000) 1) (.i (.rd (.sub (.var 3) (.var 8) (.len (.var 3))) (.var 4000) 2) (.i (.rd (.sub (.var 3) (.var 8) (.len (.var 3))) (.var 4000) 3) (.i (.var 5) (.i (.var 7) (.i (.var 4) (.i (.var 7) (.i (.var 2) .nil))))))))))
                      (.ret ((.tup [(.one (.z (.bool (.lit true)))), (.one (.z (.int .i64 (.lit 0))))]), [], 14))
                      (.next 0 ⟨[(0, (.ar .add .i64 (.var 4000) (.lit 1)))], [], []⟩))))))))
            (.ret ((.tup [(.one (.z (.bool (.lit false)))), (.one (.z (.int .i64 (.lit 0))))]), [], 14)))))))))))
-- end trCon
set_option maxRecDepth 100000 in
theorem trCon_is : T.norm 0 (call Try.prog ct6 [(36, 0)] 100 18 (symArgs 0 [psg, bx, it]) [] 0) TT.ret = trCon := by kernel_rfl
theorem trCon_low : trCon.low 1000 = true := by kernel_rfl
end Go.Proofs.Ytinfmmofcadjgaa
