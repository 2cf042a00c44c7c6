/- Chapter 38: trees of the laws. -/
import Derived.Test.YtinfmmofcadjgaaHe
set_option linter.unusedSimpArgs false
set_option linter.unusedVariables false
namespace Go.Proofs.Ytinfmmofcadjgaa
open Go.RowKit
-- term trRestLaw: call Try.prog ctL [] 100 4 (symArgs 0 [psg, it, it]) [] 0
def trRestLaw : TT OpR :=
(.ite (.cmp .neq (.fn 28 (.i (.var 0) (.i (.var 1) (.i (.var 2) (.x (.var 3) (.i (.var 4) .nil)))))) (.lit 0))
  (.ite (.cmp .eql (.fn 28 (.i (.var 0) (.i (.var 1) (.i (.var 2) (.x (.var 3) (.i (.var 4) .nil)))))) (.lit 1))
    (.ret ((.v (.one (.z (.bool (.lit true))))), [], 1))
    (.ret ((.v (.one (.z (.bool (.cmp .eql (.fn 28 (.i (.var 0) (.i (.var 1) (.i (.var 2) (.x (.var 3) (.i (.var 4) .nil)))))) (.lit 3)))))), [], 1)))
  (.ite (.cmp .lss (.fn 27 (.i (.var 0) (.i (.var 1) (.i (.var 2) (.x (.var 3) (.i (.var 4) .nil)))))) (.lit 0))
    (.ret ((.v (.one (.z (.bool (.lit false))))), [], 1))
    (.ite (.cmp .gtr (.fn 27 (.i (.var 0) (.i (.var 1) (.i (.var 2) (.x (.var 3) (.i (.var 4) .nil)))))) (.len (.var 3)))
      (.ret ((.v (.one (.z (.bool (.lit false))))), [], 1))
      (.ite (.cmp .gtr (.len (.var 3)) (.lit 40))
        (.ret ((.v (.one (.z (.bool (.lit false))))), [], 1))
        (.loop 0 2000 ⟨[(1, (.lit 0))], [(0, (.lit true))], []⟩
          (.ite (.cmp .lss (.var 2001) (.fn 27 (.i (.var 0) (.i (.var 1) (.i (.var 2) (.x (.var 3) (.i (.var 4) .nil)))))))
            (.ite (.var 2000)
              (.ite (.cmp .eql (.fn 26 (.i (.var 0) (.i (.var 1) (.i (.var 2) (.x (.var 3) (.i (.var 2001) .nil)))))) (.lit 0))
                (.next 0 ⟨[(1, (.ar .add .i64 (.var 2001) (.lit 1)))], [(0, (.cmp .lss (.fn 25 (.i (.var 0) (.i (.var 1) (.i (.var 2) (.x (.var 3) (.i (.var 2001) .nil)))))) (.var 4)))], []⟩)
                (.next 0 ⟨[(1, (.ar .add .i64 (.var 2001) (.lit 1)))], [(0, (.lit false))], []⟩))
              (.next 0 ⟨[(1, (.ar .add .i64 (.var 2001) (.lit 1)))], [(0, (.lit false))], []⟩))
            (.ite (.cmp .lss (.fn 27 (.i (.var 0) (.i (.var 1) (.i (.var 2) (.x (.var 3) (.i (.var 4) .nil)))))) (.len (.var 3)))
              (.ite (.var 2000)
                (.ite (.cmp .eql (.fn 26 (.i (.var 0) (.i (.var 1) (.i (.var 2) (.x (.var 3) (.i (.fn 27 (.i (.var 0) (.i (.var 1) (.i (.var 2) (.x (.var 3) (.i (.var 4) .nil)))))) .nil)))))) (.lit 0))
                  (.ite (.cmp .neq (.fn 28 (.i (.var 0) (.i (.var 1) (.i (.var 2) (.x (.var 3) (.i (.var 5) .nil)))))) (.lit 0))
                    (.ret ((.v (.one (.z (.bool (.cmp .geq (.fn 25 (.i (.var 0) (.i (.var 1) (.i (.var 2) (.x (.var 3) (.i (.fn 27 (.i (.var 0) (.i (.var 1) (.i (.var 2) (.x (.var 3) (.i (.var 4) .nil)))))) .nil)))))) (.var 4)))))), [], 4))
                    (.ite (.cmp .lss (.var 5) (.var 4))
                      (.ret ((.v (.one (.z (.bool (.cmp .geq (.fn 25 (.i (.var 0) (.i (.var 1) (.i (.var 2) (.x (.var 3) (.i (.fn 27 (.i (.var 0) (.i (.var 1) (.i (.var 2) (.x (.var 3) (.i (.var 4) .nil)))))) .nil)))))) (.var 4)))))), [], 4))
                      (.ite (.cmp .geq (.fn 25 (.i (.var 0) (.i (.var 1) (.i (.var 2) (.x (.var 3) (.i (.fn 27 (.i (.var 0) (.i (.var 1) (.i (.var 2) (.x (.var 3) (.i (.var 4) .nil)))))) .nil)))))) (.var 4))
                        (.ret ((.v (.one (.z (.bool (.cmp .geq (.fn 27 (.i (.var 0) (.i (.var 1) (.i (.var 2) (.x (.var 3) (.i (.var 5) .nil)))))) (.fn 27 (.i (.var 0) (.i (.var 1) (.i (.var 2) (.x (.var 3) (.i (.var 4) .nil))))))))))), [], 4))
                        (.ret ((.v (.one (.z (.bool (.lit false))))), [], 4)))))
                  (.ite (.cmp .neq (.fn 28 (.i (.var 0) (.i (.var 1) (.i (.var 2) (.x (.var 3) (.i (.var 5) .nil)))))) (.lit 0))
                    (.ret ((.v (.one (.z (.bool (.lit false))))), [], 4))
                    (.ite (.cmp .lss (.var 5) (.var 4))
                      (.ret ((.v (.one (.z (.bool (.lit false))))), [], 4))
                      (.ret ((.v (.one (.z (.bool (.lit false))))), [], 4)))))
                (.ite (.cmp .neq (.fn 28 (.i (.var 0) (.i (.var 1) (.i (.var 2) (.x (.var 3) (.i (.var 5) .nil)))))) (.lit 0))
                  (.ret ((.v (.one (.z (.bool (.lit false))))), [], 4))
                  (.ite (.cmp .lss (.var 5) (.var 4))
                    (.ret ((.v (.one (.z (.bool (.lit false))))), [], 4))
                    (.ret ((.v (.one (.z (.bool (.lit false))))), [], 4)))))
              (.ite (.cmp .neq (.fn 28 (.i (.var 0) (.i (.var 1) (.i (.var 2) (.x (.var 3) (.i (.var 5) .nil)))))) (.lit 0))
                (.ret ((.v (.one (.z (.bool (.var 2000))))), [], 3))
                (.ite (.cmp .lss (.var 5) (.var 4))
                  (.ret ((.v (.one (.z (.bool (.var 2000))))), [], 3))
                  (.ite (.var 2000)
                    (.ret ((.v (.one (.z (.bool (.cmp .geq (.fn 27 (.i (.var 0) (.i (.var 1) (.i (.var 2) (.x (.var 3) (.i (.var 5) .nil)))))) (.fn 27 (.i (.var 0) (.i (.var 1) (.i (.var 2) (.x (.var 3) (.i (.var 4) .nil))))))))))), [], 3))
                    (.ret ((.v (.one (.z (.bool (.lit false))))), [], 3))))))))))))
-- end trRestLaw
set_option maxRecDepth 100000 in
theorem trRestLaw_is : T.norm 0 (call Try.prog ctL [] 100 4 (symArgs 0 [psg, it, it]) [] 0) TT.ret = trRestLaw := by kernel_rfl
theorem trRestLaw_low : trRestLaw.low 1000 = true := by kernel_rfl
-- term trTimesLaw: call Try.prog ctL [] 100 3 (symArgs 0 [psg, it, it]) [] 0
def trTimesLaw : TT OpR :=
(.ite (.not (.fn 20 (.i (.var 0) (.i (.var 1) (.i (.var 2) (.x (.var 3) .nil))))))
  (.ret ((.v (.one (.z (.bool (.lit true))))), [], 1))
  (.ite (.cmp .lss (.var 4) (.lit 0))
    (.ret ((.v (.one (.z (.bool (.lit true))))), [], 1))
    (.ite (.cmp .geq (.var 4) (.len (.var 3)))
      (.ret ((.v (.one (.z (.bool (.lit true))))), [], 1))
      (.ite (.cmp .neq (.fn 23 (.i (.var 0) (.i (.var 1) (.i (.var 2) (.x (.var 3) (.i (.var 4) .nil)))))) (.lit 0))
        (.ite (.cmp .eql (.fn 23 (.i (.var 0) (.i (.var 1) (.i (.var 2) (.x (.var 3) (.i (.var 4) .nil)))))) (.lit 0))
          (.ret ((.v (.one (.z (.bool (.cmp .eql (.fn 23 (.i (.var 0) (.i (.var 1) (.i (.var 2) (.x (.var 3) (.i (.ar .add .i64 (.var 4) (.lit 1)) .nil)))))) (.lit 3)))))), [], 3))
          (.ite (.cmp .eql (.fn 23 (.i (.var 0) (.i (.var 1) (.i (.var 2) (.x (.var 3) (.i (.var 4) .nil)))))) (.lit 3))
            (.ret ((.v (.one (.z (.bool (.cmp .eql (.fn 23 (.i (.var 0) (.i (.var 1) (.i (.var 2) (.x (.var 3) (.i (.ar .add .i64 (.var 4) (.lit 1)) .nil)))))) (.lit 3)))))), [], 3))
            (.ret ((.v (.one (.z (.bool (.lit false))))), [], 3))))
        (.ite (.cmp .neq (.fn 23 (.i (.var 0) (.i (.var 1) (.i (.var 2) (.x (.var 3) (.i (.ar .add .i64 (.var 4) (.lit 1)) .nil)))))) (.lit 0))
          (.ite (.cmp .eql (.fn 23 (.i (.var 0) (.i (.var 1) (.i (.var 2) (.x (.var 3) (.i (.var 4) .nil)))))) (.lit 0))
            (.ret ((.v (.one (.z (.bool (.cmp .eql (.fn 23 (.i (.var 0) (.i (.var 1) (.i (.var 2) (.x (.var 3) (.i (.ar .add .i64 (.var 4) (.lit 1)) .nil)))))) (.lit 3)))))), [], 3))
            (.ite (.cmp .eql (.fn 23 (.i (.var 0) (.i (.var 1) (.i (.var 2) (.x (.var 3) (.i (.var 4) .nil)))))) (.lit 3))
              (.ret ((.v (.one (.z (.bool (.cmp .eql (.fn 23 (.i (.var 0) (.i (.var 1) (.i (.var 2) (.x (.var 3) (.i (.ar .add .i64 (.var 4) (.lit 1)) .nil)))))) (.lit 3)))))), [], 3))
              (.ret ((.v (.one (.z (.bool (.lit false))))), [], 3))))
          (.ob (.tru (.cmp .leq (.lit 0) (.var 4)))
          (.ob (.tru (.cmp .lss (.var 4) (.len (.var 3))))
          (.ite (.cmp .lss (.ar .sub .i64 (.fn 21 (.i (.var 0) (.i (.var 1) (.i (.var 2) (.x (.var 3) (.i (.ar .add .i64 (.var 4) (.lit 1)) .nil)))))) (.fn 21 (.i (.var 0) (.i (.var 1) (.i (.var 2) (.x (.var 3) (.i (.var 4) .nil))))))) (.lit 0))
            (.ret ((.v (.one (.z (.bool (.lit false))))), [], 4))
            (.ite (.cmp .gtr (.ar .sub .i64 (.fn 21 (.i (.var 0) (.i (.var 1) (.i (.var 2) (.x (.var 3) (.i (.ar .add .i64 (.var 4) (.lit 1)) .nil)))))) (.fn 21 (.i (.var 0) (.i (.var 1) (.i (.var 2) (.x (.var 3) (.i (.var 4) .nil))))))) (.lit 3000000))
              (.ret ((.v (.one (.z (.bool (.lit false))))), [], 4))
              (.ite (.cmp .lss (.ar .sub .i64 (.fn 22 (.i (.var 0) (.i (.var 1) (.i (.var 2) (.x (.var 3) (.i (.ar .add .i64 (.var 4) (.lit 1)) .nil)))))) (.fn 22 (.i (.var 0) (.i (.var 1) (.i (.var 2) (.x (.var 3) (.i (.var 4) .nil))))))) (.ar .sub .i64 (.fn 21 (.i (.var 0) (.i (.var 1) (.i (.var 2) (.x (.var 3) (.i (.ar .add .i64 (.var 4) (.lit 1)) .nil)))))) (.fn 21 (.i (.var 0) (.i (.var 1) (.i (.var 2) (.x (.var 3) (.i (.var 4) .nil))))))))
                (.ret ((.v (.one (.z (.bool (.lit false))))), [], 4))
                (.ite (.cmp .gtr (.ar .sub .i64 (.fn 22 (.i (.var 0) (.i (.var 1) (.i (.var 2) (.x (.var 3) (.i (.ar .add .i64 (.var 4) (.lit 1)) .nil)))))) (.fn 22 (.i (.var 0) (.i (.var 1) (.i (.var 2) (.x (.var 3) (.i (.var 4) .nil))))))) (.lit 10000000))
                  (.ret ((.v (.one (.z (.bool (.lit false))))), [], 4))
                  (.ite (.cmp .lss (.var 5) (.rd (.var 3) (.var 4) 4))
                    (.ret ((.v (.one (.z (.bool (.lit true))))), [], 4))
                    (.ite (.cmp .gtr (.var 5) (.rd (.var 3) (.var 4) 5))
                      (.ret ((.v (.one (.z (.bool (.lit true))))), [], 4))
                      (.ite (.cmp .leq (.ar .mul .i64 (.ar .sub .i64 (.fn 21 (.i (.var 0) (.i (.var 1) (.i (.var 2) (.x (.var 3) (.i (.ar .add .i64 (.var 4) (.lit 1)) .nil)))))) (.fn 21 (.i (.var 0) (.i (.var 1) (.i (.var 2) (.x (.var 3) (.i (.var 4) .nil))))))) (.var 5)) (.lit 3000000))
                        (.ite (.cmp .leq (.ar .mul .i64 (.ar .mul .i64 (.ar .mul .i64 (.ar .sub .i64 (.fn 21 (.i (.var 0) (.i (.var 1) (.i (.var 2) (.x (.var 3) (.i (.ar .add .i64 (.var 4) (.lit 1)) .nil)))))) (.fn 21 (.i (.var 0) (.i (.var 1) (.i (.var 2) (.x (.var 3) (.i (.var 4) .nil))))))) (.var 5)) (.ar .sub .i64 (.fn 21 (.i (.var 0) (.i (.var 1) (.i (.var 2) (.x (.var 3) (.i (.ar .add .i64 (.var 4) (.lit 1)) .nil)))))) (.fn 21 (.i (.var 0) (.i (.var 1) (.i (.var 2) (.x (.var 3) (.i (.var 4) .nil)))))))) (.var 5)) (.ar .add .i64 (.ar .mul .i64 (.ar .sub .i64 (.rd (.var 3) (.var 4) 2) (.rd (.var 3) (.var 4) 0)) (.ar .sub .i64 (.rd (.var 3) (.var 4) 2) (.rd (.var 3) (.var 4) 0))) (.ar .mul .i64 (.ar .sub .i64 (.rd (.var 3) (.var 4) 3) (.rd (.var 3) (.var 4) 1)) (.ar .sub .i64 (.rd (.var 3) (.var 4) 3) (.rd (.var 3) (.var 4) 1)))))
                          (.ret ((.v (.one (.z (.bool (.cmp .leq (.ar .add .i64 (.ar .mul .i64 (.ar .sub .i64 (.rd (.var 3) (.var 4) 2) (.rd (.var 3) (.var 4) 0)) (.ar .sub .i64 (.rd (.var 3) (.var 4) 2) (.rd (.var 3) (.var 4) 0))) (.ar .mul .i64 (.ar .sub .i64 (.rd (.var 3) (.var 4) 3) (.rd (.var 3) (.var 4) 1)) (.ar .sub .i64 (.rd (.var 3) (.var 4) 3) (.rd (.var 3) (.var 4) 1)))) (.ar .mul .i64 (.mn (.ar .mul .i64 (.ar .sub .i64 (.fn 22 (.i (.var 0) (.i (.var 1) (.i (.var 2) (.x (.var 3) (.i (.ar .add .i64 (.var 4) (.lit 1)) .nil)))))) (.fn 22 (.i (.var 0) (.i (.var 1) (.i (.var 2) (.x (.var 3) (.i (.var 4) .nil))))))) (.var 5)) (.lit 3000000)) (.mn (.ar .mul .i64 (.ar .sub .i64 (.fn 22 (.i (.var 0) (.i (.var 1) (.i (.var 2) (.x (.var 3) (.i (.ar .add .i64 (.var 4) (.lit 1)) .nil)))))) (.fn 22 (.i (.var 0) (.i (.var 1) (.i (.var 2) (.x (.var 3) (.i (.var 4) .nil))))))) (.var 5)) (.lit 3000000)))))))), [], 4))
                          (.ret ((.v (.one (.z (.bool (.lit false))))), [], 4)))
                        (.ret ((.v (.one (.z (.bool (.lit false))))), [], 4))))))))))))))))
-- end trTimesLaw
set_option maxRecDepth 100000 in
theorem trTimesLaw_is : T.norm 0 (call Try.prog ctL [] 100 3 (symArgs 0 [psg, it, it]) [] 0) TT.ret = trTimesLaw := by kernel_rfl
theorem trTimesLaw_low : trTimesLaw.low 1000 = true := by kernel_rfl
end Go.Proofs.Ytinfmmofcadjgaa
