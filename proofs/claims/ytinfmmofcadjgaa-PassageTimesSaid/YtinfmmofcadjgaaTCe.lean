/- Chapter 38: trees of package passage: Valid, Arrives, During, Rest. -/
import Derived.Test.YtinfmmofcadjgaaCe0
set_option linter.unusedSimpArgs false
set_option linter.unusedVariables false
namespace Go.Proofs.Ytinfmmofcadjgaa
open Go.RowKit
-- term trPValid: call Try.prog ct2 [] 100 11 (symArgs 0 [psg]) [] 0
def trPValid : TT OpR :=
(.ite (.cmp .geq (.var 0) (.lit 0))
  (.ite (.not (.cmp .leq (.var 0) (.lit 10000000)))
    (.ret ((.v (.one (.z (.bool (.lit false))))), [], 1))
    (.ite (.cmp .geq (.var 1) (.lit 0))
      (.ite (.not (.cmp .leq (.var 1) (.lit 10000000)))
        (.ret ((.v (.one (.z (.bool (.lit false))))), [], 1))
        (.ite (.cmp .lss (.var 1) (.var 0))
          (.ret ((.v (.one (.z (.bool (.lit false))))), [], 1))
          (.ite (.cmp .lss (.var 2) (.lit 0))
            (.ret ((.v (.one (.z (.bool (.lit false))))), [], 1))
            (.ite (.cmp .gtr (.var 2) (.lit 100000))
              (.ret ((.v (.one (.z (.bool (.lit false))))), [], 1))
              (.ite (.cmp .lss (.len (.var 3)) (.lit 1))
                (.ret ((.v (.one (.z (.bool (.lit false))))), [], 1))
                (.ite (.cmp .gtr (.len (.var 3)) (.lit 40))
                  (.ret ((.v (.one (.z (.bool (.lit false))))), [], 1))
                  (.ob (.tru (.lit true))
                  (.ob (.tru (.cmp .lss (.lit 0) (.len (.var 3))))
                  (.loop 0 3000 ⟨[(0, (.lit 0)), (1, (.rd (.var 3) (.lit 0) 0)), (2, (.rd (.var 3) (.lit 0) 1))], [], []⟩
                    (.ite (.cmp .lss (.var 3000) (.len (.var 3)))
                      (.ob (.tru (.cmp .leq (.lit 0) (.var 3000)))
                      (.ob (.tru (.cmp .lss (.var 3000) (.len (.var 3))))
                      (.ite (.fn 3 (.i (.rd (.var 3) (.var 3000) 0) (.i (.rd (.var 3) (.var 3000) 1) .nil)))
                        (.ite (.fn 3 (.i (.rd (.var 3) (.var 3000) 2) (.i (.rd (.var 3) (.var 3000) 3) .nil)))
                          (.ite (.not (.and (.cmp .eql (.rd (.var 3) (.var 3000) 0) (.rd (.var 3) (.var 3000) 2)) (.cmp .eql (.rd (.var 3) (.var 3000) 1) (.rd (.var 3) (.var 3000) 3))))
                            (.ite (.cmp .leq (.lit 1) (.rd (.var 3) (.var 3000) 4))
                              (.ite (.cmp .leq (.rd (.var 3) (.var 3000) 4) (.rd (.var 3) (.var 3000) 5))
                                (.ite (.not (.cmp .leq (.rd (.var 3) (.var 3000) 5) (.lit 2000)))
                                  (.ret ((.v (.one (.z (.bool (.lit false))))), [], 5))
                                  (.ite (.not (.and (.cmp .eql (.rd (.var 3) (.var 3000) 0) (.var 3001)) (.cmp .eql (.rd (.var 3) (.var 3000) 1) (.var 3002))))
                                    (.ret ((.v (.one (.z (.bool (.lit false))))), [], 5))
                                    (.next 0 ⟨[(0, (.ar .add .i64 (.var 3000) (.lit 1))), (1, (.rd (.var 3) (.var 3000) 2)), (2, (.rd (.var 3) (.var 3000) 3))], [], []⟩)))
                                (.ret ((.v (.one (.z (.bool (.lit false))))), [], 5)))
                              (.ret ((.v (.one (.z (.bool (.lit false))))), [], 5)))
                            (.ret ((.v (.one (.z (.bool (.lit false))))), [], 5)))
                          (.ret ((.v (.one (.z (.bool (.lit false))))), [], 5)))
                        (.ret ((.v (.one (.z (.bool (.lit false))))), [], 5)))))
                      (.ret ((.v (.one (.z (.bool (.lit true))))), [], 5))))))))))))
      (.ret ((.v (.one (.z (.bool (.lit false))))), [], 1))))
  (.ret ((.v (.one (.z (.bool (.lit false))))), [], 1)))
-- end trPValid
set_option maxRecDepth 100000 in
theorem trPValid_is : T.norm 0 (call Try.prog ct2 [] 100 11 (symArgs 0 [psg]) [] 0) TT.ret = trPValid := by kernel_rfl
theorem trPValid_low : trPValid.low 1000 = true := by kernel_rfl
end Go.Proofs.Ytinfmmofcadjgaa
