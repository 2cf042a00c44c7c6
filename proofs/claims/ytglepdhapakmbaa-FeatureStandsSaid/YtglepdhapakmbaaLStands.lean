/- LStands, merged: TEr, Qr. -/
import Derived.Test.YtglepdhapakmbaaMW
import Derived.Test.YtglepdhapakmbaaLHolds
import Derived.Test.YtglepdhapakmbaaMZ
set_option linter.unusedSimpArgs false
set_option linter.unusedVariables false
/- Chapter 07: the tree of the law FeatureStands. -/
namespace Go.Proofs.Ytglepdhapakmbaa
open Go.RowKit
-- term trStands7: call Try.prog ctE11 (Lt.of []) 100 5 (symArgs 0 [feat, feat, feat, pt]) [] 0
def trStands7 : TT OpR :=
(.ite (.eqb (.cmp .eql (.fn 119 (.i (.var 0) (.i (.var 1) (.i (.var 2) (.i (.var 3) (.i (.var 4) (.x (.var 5) (.i (.var 6) (.i (.var 7) (.x (.var 8) (.i (.var 0) (.i (.var 1) (.i (.var 2) (.i (.var 3) (.i (.var 4) (.x (.var 5) (.i (.var 6) (.i (.var 7) (.x (.var 8) .nil))))))))))))))))))) (.lit 0)) (.fn 76 (.i (.var 0) (.i (.var 1) (.i (.var 2) (.i (.var 3) (.i (.var 4) (.x (.var 5) (.i (.var 6) (.i (.var 7) (.x (.var 8) .nil)))))))))))
  (.ite (.cmp .eql (.fn 119 (.i (.var 0) (.i (.var 1) (.i (.var 2) (.i (.var 3) (.i (.var 4) (.x (.var 5) (.i (.var 6) (.i (.var 7) (.x (.var 8) (.i (.var 9) (.i (.var 10) (.i (.var 11) (.i (.var 12) (.i (.var 13) (.x (.var 14) (.i (.var 15) (.i (.var 16) (.x (.var 17) .nil))))))))))))))))))) (.lit 0))
    (.ite (.cmp .eql (.fn 119 (.i (.var 9) (.i (.var 10) (.i (.var 11) (.i (.var 12) (.i (.var 13) (.x (.var 14) (.i (.var 15) (.i (.var 16) (.x (.var 17) (.i (.var 18) (.i (.var 19) (.i (.var 20) (.i (.var 21) (.i (.var 22) (.x (.var 23) (.i (.var 24) (.i (.var 25) (.x (.var 26) .nil))))))))))))))))))) (.lit 0))
      (.ite (.eqb (.fn 128 (.i (.var 0) (.i (.var 1) (.i (.var 2) (.i (.var 3) (.i (.var 4) (.x (.var 5) (.i (.var 6) (.i (.var 7) (.x (.var 8) (.i (.var 0) (.i (.var 1) (.i (.var 2) (.i (.var 3) (.i (.var 4) (.x (.var 5) (.i (.var 6) (.i (.var 7) (.x (.var 8) .nil))))))))))))))))))) (.cmp .eql (.fn 119 (.i (.var 0) (.i (.var 1) (.i (.var 2) (.i (.var 3) (.i (.var 4) (.x (.var 5) (.i (.var 6) (.i (.var 7) (.x (.var 8) (.i (.var 0) (.i (.var 1) (.i (.var 2) (.i (.var 3) (.i (.var 4) (.x (.var 5) (.i (.var 6) (.i (.var 7) (.x (.var 8) .nil))))))))))))))))))) (.lit 0)))
        (.ite (.cmp .eql (.fn 119 (.i (.var 0) (.i (.var 1) (.i (.var 2) (.i (.var 3) (.i (.var 4) (.x (.var 5) (.i (.var 6) (.i (.var 7) (.x (.var 8) (.i (.var 18) (.i (.var 19) (.i (.var 20) (.i (.var 21) (.i (.var 22) (.x (.var 23) (.i (.var 24) (.i (.var 25) (.x (.var 26) .nil))))))))))))))))))) (.lit 0))
          (.ite (.not (.fn 128 (.i (.var 0) (.i (.var 1) (.i (.var 2) (.i (.var 3) (.i (.var 4) (.x (.var 5) (.i (.var 6) (.i (.var 7) (.x (.var 8) (.i (.var 9) (.i (.var 10) (.i (.var 11) (.i (.var 12) (.i (.var 13) (.x (.var 14) (.i (.var 15) (.i (.var 16) (.x (.var 17) .nil))))))))))))))))))))
            (.ite (.cmp .neq (.fn 119 (.i (.var 0) (.i (.var 1) (.i (.var 2) (.i (.var 3) (.i (.var 4) (.x (.var 5) (.i (.var 6) (.i (.var 7) (.x (.var 8) (.i (.var 9) (.i (.var 10) (.i (.var 11) (.i (.var 12) (.i (.var 13) (.x (.var 14) (.i (.var 15) (.i (.var 16) (.x (.var 17) .nil))))))))))))))))))) (.lit 0))
              (.ret ((.v (.one (.z (.bool (.lit true))))), [], 4))
              (.ite (.cmp .neq (.fn 78 (.i (.var 0) (.i (.var 1) (.i (.var 2) (.i (.var 3) (.i (.var 4) (.x (.var 5) (.i (.var 6) (.i (.var 7) (.x (.var 8) (.i (.var 27) (.i (.var 28) .nil)))))))))))) (.lit 0))
                (.ret ((.v (.one (.z (.bool (.lit true))))), [], 4))
                (.ite (.not (.fn 128 (.i (.var 0) (.i (.var 1) (.i (.var 2) (.i (.var 3) (.i (.var 4) (.x (.var 5) (.i (.var 6) (.i (.var 7) (.x (.var 8) (.i (.var 9) (.i (.var 10) (.i (.var 11) (.i (.var 12) (.i (.var 13) (.x (.var 14) (.i (.var 15) (.i (.var 16) (.x (.var 17) .nil))))))))))))))))))))
                  (.ret ((.v (.one (.z (.bool (.lit true))))), [], 4))
                  (.ite (.not (.fn 78 (.i (.var 0) (.i (.var 1) (.i (.var 2) (.i (.var 3) (.i (.var 4) (.x (.var 5) (.i (.var 6) (.i (.var 7) (.x (.var 8) (.i (.var 27) (.i (.var 28) .nil)))))))))))))
                    (.ret ((.v (.one (.z (.bool (.lit true))))), [], 4))
                    (.ite (.cmp .eql (.fn 78 (.i (.var 9) (.i (.var 10) (.i (.var 11) (.i (.var 12) (.i (.var 13) (.x (.var 14) (.i (.var 15) (.i (.var 16) (.x (.var 17) (.i (.var 27) (.i (.var 28) .nil)))))))))))) (.lit 0))
                      (.ite (.fn 78 (.i (.var 9) (.i (.var 10) (.i (.var 11) (.i (.var 12) (.i (.var 13) (.x (.var 14) (.i (.var 15) (.i (.var 16) (.x (.var 17) (.i (.var 27) (.i (.var 28) .nil))))))))))))
                        (.ret ((.v (.one (.z (.bool (.cmp .leq (.var 15) (.var 6)))))), [], 4))
                        (.ret ((.v (.one (.z (.bool (.lit false))))), [], 4)))
                      (.ret ((.v (.one (.z (.bool (.lit false))))), [], 4)))))))
            (.ite (.not (.fn 128 (.i (.var 9) (.i (.var 10) (.i (.var 11) (.i (.var 12) (.i (.var 13) (.x (.var 14) (.i (.var 15) (.i (.var 16) (.x (.var 17) (.i (.var 18) (.i (.var 19) (.i (.var 20) (.i (.var 21) (.i (.var 22) (.x (.var 23) (.i (.var 24) (.i (.var 25) (.x (.var 26) .nil))))))))))))))))))))
              (.ite (.cmp .neq (.fn 119 (.i (.var 0) (.i (.var 1) (.i (.var 2) (.i (.var 3) (.i (.var 4) (.x (.var 5) (.i (.var 6) (.i (.var 7) (.x (.var 8) (.i (.var 9) (.i (.var 10) (.i (.var 11) (.i (.var 12) (.i (.var 13) (.x (.var 14) (.i (.var 15) (.i (.var 16) (.x (.var 17) .nil))))))))))))))))))) (.lit 0))
                (.ret ((.v (.one (.z (.bool (.lit true))))), [], 4))
                (.ite (.cmp .neq (.fn 78 (.i (.var 0) (.i (.var 1) (.i (.var 2) (.i (.var 3) (.i (.var 4) (.x (.var 5) (.i (.var 6) (.i (.var 7) (.x (.var 8) (.i (.var 27) (.i (.var 28) .nil)))))))))))) (.lit 0))
                  (.ret ((.v (.one (.z (.bool (.lit true))))), [], 4))
                  (.ite (.not (.fn 128 (.i (.var 0) (.i (.var 1) (.i (.var 2) (.i (.var 3) (.i (.var 4) (.x (.var 5) (.i (.var 6) (.i (.var 7) (.x (.var 8) (.i (.var 9) (.i (.var 10) (.i (.var 11) (.i (.var 12) (.i (.var 13) (.x (.var 14) (.i (.var 15) (.i (.var 16) (.x (.var 17) .nil))))))))))))))))))))
                    (.ret ((.v (.one (.z (.bool (.lit true))))), [], 4))
                    (.ite (.not (.fn 78 (.i (.var 0) (.i (.var 1) (.i (.var 2) (.i (.var 3) (.i (.var 4) (.x (.var 5) (.i (.var 6) (.i (.var 7) (.x (.var 8) (.i (.var 27) (.i (.var 28) .nil)))))))))))))
                      (.ret ((.v (.one (.z (.bool (.lit true))))), [], 4))
                      (.ite (.cmp .eql (.fn 78 (.i (.var 9) (.i (.var 10) (.i (.var 11) (.i (.var 12) (.i (.var 13) (.x (.var 14) (.i (.var 15) (.i (.var 16) (.x (.var 17) (.i (.var 27) (.i (.var 28) .nil)))))))))))) (.lit 0))
                        (.ite (.fn 78 (.i (.var 9) (.i (.var 10) (.i (.var 11) (.i (.var 12) (.i (.var 13) (.x (.var 14) (.i (.var 15) (.i (.var 16) (.x (.var 17) (.i (.var 27) (.i (.var 28) .nil))))))))))))
                          (.ret ((.v (.one (.z (.bool (.cmp .leq (.var 15) (.var 6)))))), [], 4))
                          (.ret ((.v (.one (.z (.bool (.lit false))))), [], 4)))
                        (.ret ((.v (.one (.z (.bool (.lit false))))), [], 4)))))))
              (.ite (.cmp .neq (.fn 119 (.i (.var 0) (.i (.var 1) (.i (.var 2) (.i (.var 3) (.i (.var 4) (.x (.var 5) (.i (.var 6) (.i (.var 7) (.x (.var 8) (.i (.var 9) (.i (.var 10) (.i (.var 11) (.i (.var 12) (.i (.var 13) (.x (.var 14) (.i (.var 15) (.i (.var 16) (.x (.var 17) .nil))))))))))))))))))) (.lit 0))
                (.ret ((.v (.one (.z (.bool (.fn 128 (.i (.var 0) (.i (.var 1) (.i (.var 2) (.i (.var 3) (.i (.var 4) (.x (.var 5) (.i (.var 6) (.i (.var 7) (.x (.var 8) (.i (.var 18) (.i (.var 19) (.i (.var 20) (.i (.var 21) (.i (.var 22) (.x (.var 23) (.i (.var 24) (.i (.var 25) (.x (.var 26) .nil))))))))))))))))))))))), [], 4))
                (.ite (.cmp .neq (.fn 78 (.i (.var 0) (.i (.var 1) (.i (.var 2) (.i (.var 3) (.i (.var 4) (.x (.var 5) (.i (.var 6) (.i (.var 7) (.x (.var 8) (.i (.var 27) (.i (.var 28) .nil)))))))))))) (.lit 0))
                  (.ret ((.v (.one (.z (.bool (.fn 128 (.i (.var 0) (.i (.var 1) (.i (.var 2) (.i (.var 3) (.i (.var 4) (.x (.var 5) (.i (.var 6) (.i (.var 7) (.x (.var 8) (.i (.var 18) (.i (.var 19) (.i (.var 20) (.i (.var 21) (.i (.var 22) (.x (.var 23) (.i (.var 24) (.i (.var 25) (.x (.var 26) .nil))))))))))))))))))))))), [], 4))
                  (.ite (.not (.fn 128 (.i (.var 0) (.i (.var 1) (.i (.var 2) (.i (.var 3) (.i (.var 4) (.x (.var 5) (.i (.var 6) (.i (.var 7) (.x (.var 8) (.i (.var 9) (.i (.var 10) (.i (.var 11) (.i (.var 12) (.i (.var 13) (.x (.var 14) (.i (.var 15) (.i (.var 16) (.x (.var 17) .nil))))))))))))))))))))
                    (.ret ((.v (.one (.z (.bool (.fn 128 (.i (.var 0) (.i (.var 1) (.i (.var 2) (.i (.var 3) (.i (.var 4) (.x (.var 5) (.i (.var 6) (.i (.var 7) (.x (.var 8) (.i (.var 18) (.i (.var 19) (.i (.var 20) (.i (.var 21) (.i (.var 22) (.x (.var 23) (.i (.var 24) (.i (.var 25) (.x (.var 26) .nil))))))))))))))))))))))), [], 4))
                    (.ite (.not (.fn 78 (.i (.var 0) (.i (.var 1) (.i (.var 2) (.i (.var 3) (.i (.var 4) (.x (.var 5) (.i (.var 6) (.i (.var 7) (.x (.var 8) (.i (.var 27) (.i (.var 28) .nil)))))))))))))
                      (.ret ((.v (.one (.z (.bool (.fn 128 (.i (.var 0) (.i (.var 1) (.i (.var 2) (.i (.var 3) (.i (.var 4) (.x (.var 5) (.i (.var 6) (.i (.var 7) (.x (.var 8) (.i (.var 18) (.i (.var 19) (.i (.var 20) (.i (.var 21) (.i (.var 22) (.x (.var 23) (.i (.var 24) (.i (.var 25) (.x (.var 26) .nil))))))))))))))))))))))), [], 4))
                      (.ite (.fn 128 (.i (.var 0) (.i (.var 1) (.i (.var 2) (.i (.var 3) (.i (.var 4) (.x (.var 5) (.i (.var 6) (.i (.var 7) (.x (.var 8) (.i (.var 18) (.i (.var 19) (.i (.var 20) (.i (.var 21) (.i (.var 22) (.x (.var 23) (.i (.var 24) (.i (.var 25) (.x (.var 26) .nil)))))))))))))))))))
                        (.ite (.cmp .eql (.fn 78 (.i (.var 9) (.i (.var 10) (.i (.var 11) (.i (.var 12) (.i (.var 13) (.x (.var 14) (.i (.var 15) (.i (.var 16) (.x (.var 17) (.i (.var 27) (.i (.var 28) .nil)))))))))))) (.lit 0))
                          (.ite (.fn 78 (.i (.var 9) (.i (.var 10) (.i (.var 11) (.i (.var 12) (.i (.var 13) (.x (.var 14) (.i (.var 15) (.i (.var 16) (.x (.var 17) (.i (.var 27) (.i (.var 28) .nil))))))))))))
                            (.ret ((.v (.one (.z (.bool (.cmp .leq (.var 15) (.var 6)))))), [], 4))
                            (.ret ((.v (.one (.z (.bool (.lit false))))), [], 4)))
                          (.ret ((.v (.one (.z (.bool (.lit false))))), [], 4)))
                        (.ret ((.v (.one (.z (.bool (.lit false))))), [], 4)))))))))
          (.ite (.cmp .neq (.fn 119 (.i (.var 0) (.i (.var 1) (.i (.var 2) (.i (.var 3) (.i (.var 4) (.x (.var 5) (.i (.var 6) (.i (.var 7) (.x (.var 8) (.i (.var 9) (.i (.var 10) (.i (.var 11) (.i (.var 12) (.i (.var 13) (.x (.var 14) (.i (.var 15) (.i (.var 16) (.x (.var 17) .nil))))))))))))))))))) (.lit 0))
            (.ret ((.v (.one (.z (.bool (.lit false))))), [], 4))
            (.ite (.cmp .neq (.fn 78 (.i (.var 0) (.i (.var 1) (.i (.var 2) (.i (.var 3) (.i (.var 4) (.x (.var 5) (.i (.var 6) (.i (.var 7) (.x (.var 8) (.i (.var 27) (.i (.var 28) .nil)))))))))))) (.lit 0))
              (.ret ((.v (.one (.z (.bool (.lit false))))), [], 4))
              (.ite (.not (.fn 128 (.i (.var 0) (.i (.var 1) (.i (.var 2) (.i (.var 3) (.i (.var 4) (.x (.var 5) (.i (.var 6) (.i (.var 7) (.x (.var 8) (.i (.var 9) (.i (.var 10) (.i (.var 11) (.i (.var 12) (.i (.var 13) (.x (.var 14) (.i (.var 15) (.i (.var 16) (.x (.var 17) .nil))))))))))))))))))))
                (.ret ((.v (.one (.z (.bool (.lit false))))), [], 4))
                (.ite (.not (.fn 78 (.i (.var 0) (.i (.var 1) (.i (.var 2) (.i (.var 3) (.i (.var 4) (.x (.var 5) (.i (.var 6) (.i (.var 7) (.x (.var 8) (.i (.var 27) (.i (.var 28) .nil)))))))))))))
                  (.ret ((.v (.one (.z (.bool (.lit false))))), [], 4))
                  (.ret ((.v (.one (.z (.bool (.lit false))))), [], 4)))))))
        (.ite (.cmp .neq (.fn 119 (.i (.var 0) (.i (.var 1) (.i (.var 2) (.i (.var 3) (.i (.var 4) (.x (.var 5) (.i (.var 6) (.i (.var 7) (.x (.var 8) (.i (.var 9) (.i (.var 10) (.i (.var 11) (.i (.var 12) (.i (.var 13) (.x (.var 14) (.i (.var 15) (.i (.var 16) (.x (.var 17) .nil))))))))))))))))))) (.lit 0))
          (.ret ((.v (.one (.z (.bool (.lit false))))), [], 4))
          (.ite (.cmp .neq (.fn 78 (.i (.var 0) (.i (.var 1) (.i (.var 2) (.i (.var 3) (.i (.var 4) (.x (.var 5) (.i (.var 6) (.i (.var 7) (.x (.var 8) (.i (.var 27) (.i (.var 28) .nil)))))))))))) (.lit 0))
            (.ret ((.v (.one (.z (.bool (.lit false))))), [], 4))
            (.ite (.not (.fn 128 (.i (.var 0) (.i (.var 1) (.i (.var 2) (.i (.var 3) (.i (.var 4) (.x (.var 5) (.i (.var 6) (.i (.var 7) (.x (.var 8) (.i (.var 9) (.i (.var 10) (.i (.var 11) (.i (.var 12) (.i (.var 13) (.x (.var 14) (.i (.var 15) (.i (.var 16) (.x (.var 17) .nil))))))))))))))))))))
              (.ret ((.v (.one (.z (.bool (.lit false))))), [], 4))
              (.ite (.not (.fn 78 (.i (.var 0) (.i (.var 1) (.i (.var 2) (.i (.var 3) (.i (.var 4) (.x (.var 5) (.i (.var 6) (.i (.var 7) (.x (.var 8) (.i (.var 27) (.i (.var 28) .nil)))))))))))))
                (.ret ((.v (.one (.z (.bool (.lit false))))), [], 4))
                (.ret ((.v (.one (.z (.bool (.lit false))))), [], 4)))))))
      (.ite (.cmp .neq (.fn 119 (.i (.var 0) (.i (.var 1) (.i (.var 2) (.i (.var 3) (.i (.var 4) (.x (.var 5) (.i (.var 6) (.i (.var 7) (.x (.var 8) (.i (.var 9) (.i (.var 10) (.i (.var 11) (.i (.var 12) (.i (.var 13) (.x (.var 14) (.i (.var 15) (.i (.var 16) (.x (.var 17) .nil))))))))))))))))))) (.lit 0))
        (.ret ((.v (.one (.z (.bool (.eqb (.fn 128 (.i (.var 0) (.i (.var 1) (.i (.var 2) (.i (.var 3) (.i (.var 4) (.x (.var 5) (.i (.var 6) (.i (.var 7) (.x (.var 8) (.i (.var 0) (.i (.var 1) (.i (.var 2) (.i (.var 3) (.i (.var 4) (.x (.var 5) (.i (.var 6) (.i (.var 7) (.x (.var 8) .nil))))))))))))))))))) (.cmp .eql (.fn 119 (.i (.var 0) (.i (.var 1) (.i (.var 2) (.i (.var 3) (.i (.var 4) (.x (.var 5) (.i (.var 6) (.i (.var 7) (.x (.var 8) (.i (.var 0) (.i (.var 1) (.i (.var 2) (.i (.var 3) (.i (.var 4) (.x (.var 5) (.i (.var 6) (.i (.var 7) (.x (.var 8) .nil))))))))))))))))))) (.lit 0))))))), [], 4))
        (.ite (.cmp .neq (.fn 78 (.i (.var 0) (.i (.var 1) (.i (.var 2) (.i (.var 3) (.i (.var 4) (.x (.var 5) (.i (.var 6) (.i (.var 7) (.x (.var 8) (.i (.var 27) (.i (.var 28) .nil)))))))))))) (.lit 0))
          (.ret ((.v (.one (.z (.bool (.eqb (.fn 128 (.i (.var 0) (.i (.var 1) (.i (.var 2) (.i (.var 3) (.i (.var 4) (.x (.var 5) (.i (.var 6) (.i (.var 7) (.x (.var 8) (.i (.var 0) (.i (.var 1) (.i (.var 2) (.i (.var 3) (.i (.var 4) (.x (.var 5) (.i (.var 6) (.i (.var 7) (.x (.var 8) .nil))))))))))))))))))) (.cmp .eql (.fn 119 (.i (.var 0) (.i (.var 1) (.i (.var 2) (.i (.var 3) (.i (.var 4) (.x (.var 5) (.i (.var 6) (.i (.var 7) (.x (.var 8) (.i (.var 0) (.i (.var 1) (.i (.var 2) (.i (.var 3) (.i (.var 4) (.x (.var 5) (.i (.var 6) (.i (.var 7) (.x (.var 8) .nil))))))))))))))))))) (.lit 0))))))), [], 4))
          (.ite (.not (.fn 128 (.i (.var 0) (.i (.var 1) (.i (.var 2) (.i (.var 3) (.i (.var 4) (.x (.var 5) (.i (.var 6) (.i (.var 7) (.x (.var 8) (.i (.var 9) (.i (.var 10) (.i (.var 11) (.i (.var 12) (.i (.var 13) (.x (.var 14) (.i (.var 15) (.i (.var 16) (.x (.var 17) .nil))))))))))))))))))))
            (.ret ((.v (.one (.z (.bool (.eqb (.fn 128 (.i (.var 0) (.i (.var 1) (.i (.var 2) (.i (.var 3) (.i (.var 4) (.x (.var 5) (.i (.var 6) (.i (.var 7) (.x (.var 8) (.i (.var 0) (.i (.var 1) (.i (.var 2) (.i (.var 3) (.i (.var 4) (.x (.var 5) (.i (.var 6) (.i (.var 7) (.x (.var 8) .nil))))))))))))))))))) (.cmp .eql (.fn 119 (.i (.var 0) (.i (.var 1) (.i (.var 2) (.i (.var 3) (.i (.var 4) (.x (.var 5) (.i (.var 6) (.i (.var 7) (.x (.var 8) (.i (.var 0) (.i (.var 1) (.i (.var 2) (.i (.var 3) (.i (.var 4) (.x (.var 5) (.i (.var 6) (.i (.var 7) (.x (.var 8) .nil))))))))))))))))))) (.lit 0))))))), [], 4))
            (.ite (.not (.fn 78 (.i (.var 0) (.i (.var 1) (.i (.var 2) (.i (.var 3) (.i (.var 4) (.x (.var 5) (.i (.var 6) (.i (.var 7) (.x (.var 8) (.i (.var 27) (.i (.var 28) .nil)))))))))))))
              (.ret ((.v (.one (.z (.bool (.eqb (.fn 128 (.i (.var 0) (.i (.var 1) (.i (.var 2) (.i (.var 3) (.i (.var 4) (.x (.var 5) (.i (.var 6) (.i (.var 7) (.x (.var 8) (.i (.var 0) (.i (.var 1) (.i (.var 2) (.i (.var 3) (.i (.var 4) (.x (.var 5) (.i (.var 6) (.i (.var 7) (.x (.var 8) .nil))))))))))))))))))) (.cmp .eql (.fn 119 (.i (.var 0) (.i (.var 1) (.i (.var 2) (.i (.var 3) (.i (.var 4) (.x (.var 5) (.i (.var 6) (.i (.var 7) (.x (.var 8) (.i (.var 0) (.i (.var 1) (.i (.var 2) (.i (.var 3) (.i (.var 4) (.x (.var 5) (.i (.var 6) (.i (.var 7) (.x (.var 8) .nil))))))))))))))))))) (.lit 0))))))), [], 4))
              (.ite (.eqb (.fn 128 (.i (.var 0) (.i (.var 1) (.i (.var 2) (.i (.var 3) (.i (.var 4) (.x (.var 5) (.i (.var 6) (.i (.var 7) (.x (.var 8) (.i (.var 0) (.i (.var 1) (.i (.var 2) (.i (.var 3) (.i (.var 4) (.x (.var 5) (.i (.var 6) (.i (.var 7) (.x (.var 8) .nil))))))))))))))))))) (.cmp .eql (.fn 119 (.i (.var 0) (.i (.var 1) (.i (.var 2) (.i (.var 3) (.i (.var 4) (.x (.var 5) (.i (.var 6) (.i (.var 7) (.x (.var 8) (.i (.var 0) (.i (.var 1) (.i (.var 2) (.i (.var 3) (.i (.var 4) (.x (.var 5) (.i (.var 6) (.i (.var 7) (.x (.var 8) .nil))))))))))))))))))) (.lit 0)))
                (.ite (.cmp .eql (.fn 78 (.i (.var 9) (.i (.var 10) (.i (.var 11) (.i (.var 12) (.i (.var 13) (.x (.var 14) (.i (.var 15) (.i (.var 16) (.x (.var 17) (.i (.var 27) (.i (.var 28) .nil)))))))))))) (.lit 0))
                  (.ite (.fn 78 (.i (.var 9) (.i (.var 10) (.i (.var 11) (.i (.var 12) (.i (.var 13) (.x (.var 14) (.i (.var 15) (.i (.var 16) (.x (.var 17) (.i (.var 27) (.i (.var 28) .nil))))))))))))
                    (.ret ((.v (.one (.z (.bool (.cmp .leq (.var 15) (.var 6)))))), [], 4))
                    (.ret ((.v (.one (.z (.bool (.lit false))))), [], 4)))
                  (.ret ((.v (.one (.z (.bool (.lit false))))), [], 4)))
                (.ret ((.v (.one (.z (.bool (.lit false))))), [], 4))))))))
    (.ite (.cmp .neq (.fn 119 (.i (.var 0) (.i (.var 1) (.i (.var 2) (.i (.var 3) (.i (.var 4) (.x (.var 5) (.i (.var 6) (.i (.var 7) (.x (.var 8) (.i (.var 9) (.i (.var 10) (.i (.var 11) (.i (.var 12) (.i (.var 13) (.x (.var 14) (.i (.var 15) (.i (.var 16) (.x (.var 17) .nil))))))))))))))))))) (.lit 0))
      (.ret ((.v (.one (.z (.bool (.eqb (.fn 128 (.i (.var 0) (.i (.var 1) (.i (.var 2) (.i (.var 3) (.i (.var 4) (.x (.var 5) (.i (.var 6) (.i (.var 7) (.x (.var 8) (.i (.var 0) (.i (.var 1) (.i (.var 2) (.i (.var 3) (.i (.var 4) (.x (.var 5) (.i (.var 6) (.i (.var 7) (.x (.var 8) .nil))))))))))))))))))) (.cmp .eql (.fn 119 (.i (.var 0) (.i (.var 1) (.i (.var 2) (.i (.var 3) (.i (.var 4) (.x (.var 5) (.i (.var 6) (.i (.var 7) (.x (.var 8) (.i (.var 0) (.i (.var 1) (.i (.var 2) (.i (.var 3) (.i (.var 4) (.x (.var 5) (.i (.var 6) (.i (.var 7) (.x (.var 8) .nil))))))))))))))))))) (.lit 0))))))), [], 4))
      (.ite (.cmp .neq (.fn 78 (.i (.var 0) (.i (.var 1) (.i (.var 2) (.i (.var 3) (.i (.var 4) (.x (.var 5) (.i (.var 6) (.i (.var 7) (.x (.var 8) (.i (.var 27) (.i (.var 28) .nil)))))))))))) (.lit 0))
        (.ret ((.v (.one (.z (.bool (.eqb (.fn 128 (.i (.var 0) (.i (.var 1) (.i (.var 2) (.i (.var 3) (.i (.var 4) (.x (.var 5) (.i (.var 6) (.i (.var 7) (.x (.var 8) (.i (.var 0) (.i (.var 1) (.i (.var 2) (.i (.var 3) (.i (.var 4) (.x (.var 5) (.i (.var 6) (.i (.var 7) (.x (.var 8) .nil))))))))))))))))))) (.cmp .eql (.fn 119 (.i (.var 0) (.i (.var 1) (.i (.var 2) (.i (.var 3) (.i (.var 4) (.x (.var 5) (.i (.var 6) (.i (.var 7) (.x (.var 8) (.i (.var 0) (.i (.var 1) (.i (.var 2) (.i (.var 3) (.i (.var 4) (.x (.var 5) (.i (.var 6) (.i (.var 7) (.x (.var 8) .nil))))))))))))))))))) (.lit 0))))))), [], 4))
        (.ite (.not (.fn 128 (.i (.var 0) (.i (.var 1) (.i (.var 2) (.i (.var 3) (.i (.var 4) (.x (.var 5) (.i (.var 6) (.i (.var 7) (.x (.var 8) (.i (.var 9) (.i (.var 10) (.i (.var 11) (.i (.var 12) (.i (.var 13) (.x (.var 14) (.i (.var 15) (.i (.var 16) (.x (.var 17) .nil))))))))))))))))))))
          (.ret ((.v (.one (.z (.bool (.eqb (.fn 128 (.i (.var 0) (.i (.var 1) (.i (.var 2) (.i (.var 3) (.i (.var 4) (.x (.var 5) (.i (.var 6) (.i (.var 7) (.x (.var 8) (.i (.var 0) (.i (.var 1) (.i (.var 2) (.i (.var 3) (.i (.var 4) (.x (.var 5) (.i (.var 6) (.i (.var 7) (.x (.var 8) .nil))))))))))))))))))) (.cmp .eql (.fn 119 (.i (.var 0) (.i (.var 1) (.i (.var 2) (.i (.var 3) (.i (.var 4) (.x (.var 5) (.i (.var 6) (.i (.var 7) (.x (.var 8) (.i (.var 0) (.i (.var 1) (.i (.var 2) (.i (.var 3) (.i (.var 4) (.x (.var 5) (.i (.var 6) (.i (.var 7) (.x (.var 8) .nil))))))))))))))))))) (.lit 0))))))), [], 4))
          (.ite (.not (.fn 78 (.i (.var 0) (.i (.var 1) (.i (.var 2) (.i (.var 3) (.i (.var 4) (.x (.var 5) (.i (.var 6) (.i (.var 7) (.x (.var 8) (.i (.var 27) (.i (.var 28) .nil)))))))))))))
            (.ret ((.v (.one (.z (.bool (.eqb (.fn 128 (.i (.var 0) (.i (.var 1) (.i (.var 2) (.i (.var 3) (.i (.var 4) (.x (.var 5) (.i (.var 6) (.i (.var 7) (.x (.var 8) (.i (.var 0) (.i (.var 1) (.i (.var 2) (.i (.var 3) (.i (.var 4) (.x (.var 5) (.i (.var 6) (.i (.var 7) (.x (.var 8) .nil))))))))))))))))))) (.cmp .eql (.fn 119 (.i (.var 0) (.i (.var 1) (.i (.var 2) (.i (.var 3) (.i (.var 4) (.x (.var 5) (.i (.var 6) (.i (.var 7) (.x (.var 8) (.i (.var 0) (.i (.var 1) (.i (.var 2) (.i (.var 3) (.i (.var 4) (.x (.var 5) (.i (.var 6) (.i (.var 7) (.x (.var 8) .nil))))))))))))))))))) (.lit 0))))))), [], 4))
            (.ite (.eqb (.fn 128 (.i (.var 0) (.i (.var 1) (.i (.var 2) (.i (.var 3) (.i (.var 4) (.x (.var 5) (.i (.var 6) (.i (.var 7) (.x (.var 8) (.i (.var 0) (.i (.var 1) (.i (.var 2) (.i (.var 3) (.i (.var 4) (.x (.var 5) (.i (.var 6) (.i (.var 7) (.x (.var 8) .nil))))))))))))))))))) (.cmp .eql (.fn 119 (.i (.var 0) (.i (.var 1) (.i (.var 2) (.i (.var 3) (.i (.var 4) (.x (.var 5) (.i (.var 6) (.i (.var 7) (.x (.var 8) (.i (.var 0) (.i (.var 1) (.i (.var 2) (.i (.var 3) (.i (.var 4) (.x (.var 5) (.i (.var 6) (.i (.var 7) (.x (.var 8) .nil))))))))))))))))))) (.lit 0)))
              (.ite (.cmp .eql (.fn 78 (.i (.var 9) (.i (.var 10) (.i (.var 11) (.i (.var 12) (.i (.var 13) (.x (.var 14) (.i (.var 15) (.i (.var 16) (.x (.var 17) (.i (.var 27) (.i (.var 28) .nil)))))))))))) (.lit 0))
                (.ite (.fn 78 (.i (.var 9) (.i (.var 10) (.i (.var 11) (.i (.var 12) (.i (.var 13) (.x (.var 14) (.i (.var 15) (.i (.var 16) (.x (.var 17) (.i (.var 27) (.i (.var 28) .nil))))))))))))
                  (.ret ((.v (.one (.z (.bool (.cmp .leq (.var 15) (.var 6)))))), [], 4))
                  (.ret ((.v (.one (.z (.bool (.lit false))))), [], 4)))
                (.ret ((.v (.one (.z (.bool (.lit false))))), [], 4)))
              (.ret ((.v (.one (.z (.bool (.lit false))))), [], 4))))))))
  (.ite (.cmp .eql (.fn 119 (.i (.var 0) (.i (.var 1) (.i (.var 2) (.i (.var 3) (.i (.var 4) (.x (.var 5) (.i (.var 6) (.i (.var 7) (.x (.var 8) (.i (.var 9) (.i (.var 10) (.i (.var 11) (.i (.var 12) (.i (.var 13) (.x (.var 14) (.i (.var 15) (.i (.var 16) (.x (.var 17) .nil))))))))))))))))))) (.lit 0))
    (.ite (.cmp .eql (.fn 119 (.i (.var 9) (.i (.var 10) (.i (.var 11) (.i (.var 12) (.i (.var 13) (.x (.var 14) (.i (.var 15) (.i (.var 16) (.x (.var 17) (.i (.var 18) (.i (.var 19) (.i (.var 20) (.i (.var 21) (.i (.var 22) (.x (.var 23) (.i (.var 24) (.i (.var 25) (.x (.var 26) .nil))))))))))))))))))) (.lit 0))
      (.ite (.cmp .neq (.fn 119 (.i (.var 0) (.i (.var 1) (.i (.var 2) (.i (.var 3) (.i (.var 4) (.x (.var 5) (.i (.var 6) (.i (.var 7) (.x (.var 8) (.i (.var 9) (.i (.var 10) (.i (.var 11) (.i (.var 12) (.i (.var 13) (.x (.var 14) (.i (.var 15) (.i (.var 16) (.x (.var 17) .nil))))))))))))))))))) (.lit 0))
        (.ret ((.v (.one (.z (.bool (.lit false))))), [], 4))
        (.ite (.cmp .neq (.fn 78 (.i (.var 0) (.i (.var 1) (.i (.var 2) (.i (.var 3) (.i (.var 4) (.x (.var 5) (.i (.var 6) (.i (.var 7) (.x (.var 8) (.i (.var 27) (.i (.var 28) .nil)))))))))))) (.lit 0))
          (.ret ((.v (.one (.z (.bool (.lit false))))), [], 4))
          (.ite (.not (.fn 128 (.i (.var 0) (.i (.var 1) (.i (.var 2) (.i (.var 3) (.i (.var 4) (.x (.var 5) (.i (.var 6) (.i (.var 7) (.x (.var 8) (.i (.var 9) (.i (.var 10) (.i (.var 11) (.i (.var 12) (.i (.var 13) (.x (.var 14) (.i (.var 15) (.i (.var 16) (.x (.var 17) .nil))))))))))))))))))))
            (.ret ((.v (.one (.z (.bool (.lit false))))), [], 4))
            (.ite (.not (.fn 78 (.i (.var 0) (.i (.var 1) (.i (.var 2) (.i (.var 3) (.i (.var 4) (.x (.var 5) (.i (.var 6) (.i (.var 7) (.x (.var 8) (.i (.var 27) (.i (.var 28) .nil)))))))))))))
              (.ret ((.v (.one (.z (.bool (.lit false))))), [], 4))
              (.ret ((.v (.one (.z (.bool (.lit false))))), [], 4))))))
      (.ite (.cmp .neq (.fn 119 (.i (.var 0) (.i (.var 1) (.i (.var 2) (.i (.var 3) (.i (.var 4) (.x (.var 5) (.i (.var 6) (.i (.var 7) (.x (.var 8) (.i (.var 9) (.i (.var 10) (.i (.var 11) (.i (.var 12) (.i (.var 13) (.x (.var 14) (.i (.var 15) (.i (.var 16) (.x (.var 17) .nil))))))))))))))))))) (.lit 0))
        (.ret ((.v (.one (.z (.bool (.lit false))))), [], 4))
        (.ite (.cmp .neq (.fn 78 (.i (.var 0) (.i (.var 1) (.i (.var 2) (.i (.var 3) (.i (.var 4) (.x (.var 5) (.i (.var 6) (.i (.var 7) (.x (.var 8) (.i (.var 27) (.i (.var 28) .nil)))))))))))) (.lit 0))
          (.ret ((.v (.one (.z (.bool (.lit false))))), [], 4))
          (.ite (.not (.fn 128 (.i (.var 0) (.i (.var 1) (.i (.var 2) (.i (.var 3) (.i (.var 4) (.x (.var 5) (.i (.var 6) (.i (.var 7) (.x (.var 8) (.i (.var 9) (.i (.var 10) (.i (.var 11) (.i (.var 12) (.i (.var 13) (.x (.var 14) (.i (.var 15) (.i (.var 16) (.x (.var 17) .nil))))))))))))))))))))
            (.ret ((.v (.one (.z (.bool (.lit false))))), [], 4))
            (.ite (.not (.fn 78 (.i (.var 0) (.i (.var 1) (.i (.var 2) (.i (.var 3) (.i (.var 4) (.x (.var 5) (.i (.var 6) (.i (.var 7) (.x (.var 8) (.i (.var 27) (.i (.var 28) .nil)))))))))))))
              (.ret ((.v (.one (.z (.bool (.lit false))))), [], 4))
              (.ret ((.v (.one (.z (.bool (.lit false))))), [], 4)))))))
    (.ite (.cmp .neq (.fn 119 (.i (.var 0) (.i (.var 1) (.i (.var 2) (.i (.var 3) (.i (.var 4) (.x (.var 5) (.i (.var 6) (.i (.var 7) (.x (.var 8) (.i (.var 9) (.i (.var 10) (.i (.var 11) (.i (.var 12) (.i (.var 13) (.x (.var 14) (.i (.var 15) (.i (.var 16) (.x (.var 17) .nil))))))))))))))))))) (.lit 0))
      (.ret ((.v (.one (.z (.bool (.lit false))))), [], 4))
      (.ite (.cmp .neq (.fn 78 (.i (.var 0) (.i (.var 1) (.i (.var 2) (.i (.var 3) (.i (.var 4) (.x (.var 5) (.i (.var 6) (.i (.var 7) (.x (.var 8) (.i (.var 27) (.i (.var 28) .nil)))))))))))) (.lit 0))
        (.ret ((.v (.one (.z (.bool (.lit false))))), [], 4))
        (.ite (.not (.fn 128 (.i (.var 0) (.i (.var 1) (.i (.var 2) (.i (.var 3) (.i (.var 4) (.x (.var 5) (.i (.var 6) (.i (.var 7) (.x (.var 8) (.i (.var 9) (.i (.var 10) (.i (.var 11) (.i (.var 12) (.i (.var 13) (.x (.var 14) (.i (.var 15) (.i (.var 16) (.x (.var 17) .nil))))))))))))))))))))
          (.ret ((.v (.one (.z (.bool (.lit false))))), [], 4))
          (.ite (.not (.fn 78 (.i (.var 0) (.i (.var 1) (.i (.var 2) (.i (.var 3) (.i (.var 4) (.x (.var 5) (.i (.var 6) (.i (.var 7) (.x (.var 8) (.i (.var 27) (.i (.var 28) .nil)))))))))))))
            (.ret ((.v (.one (.z (.bool (.lit false))))), [], 4))
            (.ret ((.v (.one (.z (.bool (.lit false))))), [], 4))))))))
-- end trStands7
set_option maxRecDepth 100000 in
theorem trStands7_is : T.norm 0 (call Try.prog ctE11 (Lt.of []) 100 5 (symArgs 0 [feat, feat, feat, pt]) [] 0) TT.ret = trStands7 := by kernel_rfl
theorem trStands7_low : trStands7.low 1000 = true := by kernel_rfl
end Go.Proofs.Ytglepdhapakmbaa
/- Chapter 07: the law FeatureStands. -/
namespace Go.Proofs.Ytglepdhapakmbaa
open Go.RowKit
theorem feStR_two (i1 k1 x1 y1 r1 : Int) (a1 : Rows) (d1 s1 : Int) (t1 : Rows) (i2 k2 x2 y2 r2 : Int) (a2 : Rows) (d2 s2 : Int) (t2 : Rows) : feStR [.i i1, .i k1, .i x1, .i y1, .i r1, .l a1, .i d1, .i s1, .l t1, .i i2, .i k2, .i x2, .i y2, .i r2, .l a2, .i d2, .i s2, .l t2] = ((featB i1 k1 x1 y1 r1 a1 d1 s1 t1 && featB i2 k2 x2 y2 r2 a2 d2 s2 t2) && standX k1 x1 y1 r1 a1 d1 t1 k2 x2 y2 r2 a2 d2 t2) := rfl
theorem K79b76 (W : World) (ds l : List D) : (envOf K79 W ds).fb 76 l = featL l := by simp only [envOf, K79, K78, K77, K76, K75, K74, K73, K72, K71, KI, KH, KG, KF, KE, KD, KC, KB, KA, K9, K8, K7, K6, K5, K]
theorem K79i119 (W : World) (ds l : List D) : (envOf K79 W ds).fi 119 l = feE l := by simp only [envOf, K79, K78, K77, K76, K75, K74, K73, K72, K71, KI, KH, KG, KF, KE, KD, KC, KB, KA, K9, K8, K7, K6, K5, K]
theorem K79b128 (W : World) (ds l : List D) : (envOf K79 W ds).fb 128 l = feStR l := by simp only [envOf, K79, K78, K77, K76, K75, K74, K73, K72, K71, KI, KH, KG, KF, KE, KD, KC, KB, KA, K9, K8, K7, K6, K5, K]
theorem K79b78 (W : World) (ds l : List D) : (envOf K79 W ds).fb 78 l = covR l := by simp only [envOf, K79, K78, K77, K76, K75, K74, K73, K72, K71, KI, KH, KG, KF, KE, KD, KC, KB, KA, K9, K8, K7, K6, K5, K]
theorem K79i78 (W : World) (ds l : List D) : (envOf K79 W ds).fi 78 l = covE l := by simp only [envOf, K79, K78, K77, K76, K75, K74, K73, K72, K71, KI, KH, KG, KF, KE, KD, KC, KB, KA, K9, K8, K7, K6, K5, K]
section
variable {i1 k1 x1 y1 r1 d1 s1 i2 k2 x2 y2 r2 d2 s2 i3 k3 x3 y3 r3 d3 s3 px py : Int} {a1 t1 a2 t2 a3 t3 : Rows}
theorem stand_trans (h1 : featB i1 k1 x1 y1 r1 a1 d1 s1 t1 = true) (h2 : featB i2 k2 x2 y2 r2 a2 d2 s2 t2 = true) (h3 : featB i3 k3 x3 y3 r3 a3 d3 s3 t3 = true) (p : standX k1 x1 y1 r1 a1 d1 t1 k2 x2 y2 r2 a2 d2 t2 = true) (q : standX k2 x2 y2 r2 a2 d2 t2 k3 x3 y3 r3 a3 d3 t3 = true) : standX k1 x1 y1 r1 a1 d1 t1 k3 x3 y3 r3 a3 d3 t3 = true := by
  unfold standX at p q ⊢
  by_cases n1 : k1 = 4
  · rw [if_neg (by omega)] at p ⊢
    simp only [Bool.and_eq_true, decide_eq_true_eq, Bool.not_eq_true'] at p ⊢
    rw [if_neg (by omega)] at q
    simp only [Bool.and_eq_true, decide_eq_true_eq, Bool.not_eq_true'] at q
    exact ⟨by omega, safer_trans (feat_secs h1 n1) (feat_secs h2 p.1.1) (feat_secs h3 q.1.1) p.2 q.2⟩
  · rw [if_pos n1] at p ⊢
    simp only [Bool.and_eq_true, decide_eq_true_eq] at p ⊢
    have n2 : k2 ≠ 4 := fun h => by
      have := p.2
      unfold holdX at this
      rw [if_pos h, decide_eq_true_eq] at this
      exact n1 this
    rw [if_pos n2] at q
    simp only [Bool.and_eq_true, decide_eq_true_eq] at q
    exact ⟨by omega, hold_trans h3 h2 h1 q.2 p.2⟩
theorem stand_covers (h1 : featB i1 k1 x1 y1 r1 a1 d1 s1 t1 = true) (h2 : featB i2 k2 x2 y2 r2 a2 d2 s2 t2 = true) (hp : placeB px py = true) (p : standX k1 x1 y1 r1 a1 d1 t1 k2 x2 y2 r2 a2 d2 t2 = true) (c : covX k1 x1 y1 r1 a1 px py = true) : covX k2 x2 y2 r2 a2 px py = true ∧ d2 ≤ d1 := by
  have n1 : k1 ≠ 4 := fun h => by rw [cov_light h] at c; exact absurd c (by decide)
  unfold standX at p
  rw [if_pos n1] at p
  simp only [Bool.and_eq_true, decide_eq_true_eq] at p
  exact ⟨hold_covers h2 h1 hp p.2 c, p.1⟩
end
set_option maxHeartbeats 8000000 in
theorem gStandsLaw : Gives Try.prog 5 [feat, feat, feat, pt] (fun _ => .bool true) := by
  refine GivesIf.all (fn_gives K79 (by kernel_rfl) (fun ρ h => ctE11_ok (Sees.of h 132)) (by kernel_rfl) trStands7_is trStands7_low (by decide) (fun W vals ds hr _ => ?_))
  simp only [trStands7, TT.sat_ret, TT.sat_ite, TT.sat_ob, TT.sat_next, TT.sat_stuck, put_i, put_b, put_d, put_fi, put_fb, put_fd, Ob.ok, B.ev, E.ev, X.ev, AL.ev, cmp_t, cmp_f, arEv, V.plain, V2.plain, S.plain, S0.plain, V.val, V2.val, S.val, S0.val, bV, iV, List.all_cons, List.all_nil, Bool.and_true, Bool.and_self, envOf_i, envOf_b, envOf_d, List.map_cons, List.map_nil, true_and, Bool.not_eq_true', Bool.not_eq_false', Bool.not_not, Bool.and_eq_true, and_f, cell_lg, cell_lb, cell_lr, cmpP, val_i, val_b, val_d, aget, Nat.reduceBEq, beq_self_eq_true, Bool.false_eq_true, if_true, if_false, Nat.reduceLT, Nat.reduceSub, Nat.sub_self, Nat.lt_irrefl, K79b76, K79i119, K79b128, K79b78, K79i78, feE_18, feStR_two, covE_11, covR_11, feat_nine]
  have H := stand_self (i1 := iAt ds 0) (k1 := iAt ds 1) (x1 := iAt ds 2) (y1 := iAt ds 3) (r1 := iAt ds 4) (a1 := rAt ds 5) (d1 := iAt ds 6) (s1 := iAt ds 7) (t1 := rAt ds 8)
  have T := stand_trans (i1 := iAt ds 0) (k1 := iAt ds 1) (x1 := iAt ds 2) (y1 := iAt ds 3) (r1 := iAt ds 4) (a1 := rAt ds 5) (d1 := iAt ds 6) (s1 := iAt ds 7) (t1 := rAt ds 8) (i2 := iAt ds 9) (k2 := iAt ds 10) (x2 := iAt ds 11) (y2 := iAt ds 12) (r2 := iAt ds 13) (a2 := rAt ds 14) (d2 := iAt ds 15) (s2 := iAt ds 16) (t2 := rAt ds 17) (i3 := iAt ds 18) (k3 := iAt ds 19) (x3 := iAt ds 20) (y3 := iAt ds 21) (r3 := iAt ds 22) (a3 := rAt ds 23) (d3 := iAt ds 24) (s3 := iAt ds 25) (t3 := rAt ds 26)
  have C := stand_covers (i1 := iAt ds 0) (k1 := iAt ds 1) (x1 := iAt ds 2) (y1 := iAt ds 3) (r1 := iAt ds 4) (a1 := rAt ds 5) (d1 := iAt ds 6) (s1 := iAt ds 7) (t1 := rAt ds 8) (i2 := iAt ds 9) (k2 := iAt ds 10) (x2 := iAt ds 11) (y2 := iAt ds 12) (r2 := iAt ds 13) (a2 := rAt ds 14) (d2 := iAt ds 15) (s2 := iAt ds 16) (t2 := rAt ds 17) (px := iAt ds 27) (py := iAt ds 28)
  have D : covX (iAt ds 1) (iAt ds 2) (iAt ds 3) (iAt ds 4) (rAt ds 5) (iAt ds 27) (iAt ds 28) = true → True := fun _ => trivial
  clear hr D
  have hd : cmpEv BinOp.leq (iAt ds 15) (iAt ds 6) = decide (iAt ds 15 ≤ iAt ds 6) := by
    rw [Bool.eq_iff_iff, cmp_t]
    simp only [cmpP, decide_eq_true_eq]
  simp only [hd]
  clear hd
  generalize standX (iAt ds 1) (iAt ds 2) (iAt ds 3) (iAt ds 4) (rAt ds 5) (iAt ds 6) (rAt ds 8) (iAt ds 1) (iAt ds 2) (iAt ds 3) (iAt ds 4) (rAt ds 5) (iAt ds 6) (rAt ds 8) = h11 at *
  generalize standX (iAt ds 1) (iAt ds 2) (iAt ds 3) (iAt ds 4) (rAt ds 5) (iAt ds 6) (rAt ds 8) (iAt ds 10) (iAt ds 11) (iAt ds 12) (iAt ds 13) (rAt ds 14) (iAt ds 15) (rAt ds 17) = h12 at *
  generalize standX (iAt ds 10) (iAt ds 11) (iAt ds 12) (iAt ds 13) (rAt ds 14) (iAt ds 15) (rAt ds 17) (iAt ds 19) (iAt ds 20) (iAt ds 21) (iAt ds 22) (rAt ds 23) (iAt ds 24) (rAt ds 26) = h23 at *
  generalize standX (iAt ds 1) (iAt ds 2) (iAt ds 3) (iAt ds 4) (rAt ds 5) (iAt ds 6) (rAt ds 8) (iAt ds 19) (iAt ds 20) (iAt ds 21) (iAt ds 22) (rAt ds 23) (iAt ds 24) (rAt ds 26) = h13 at *
  generalize covX (iAt ds 1) (iAt ds 2) (iAt ds 3) (iAt ds 4) (rAt ds 5) (iAt ds 27) (iAt ds 28) = c1 at *
  generalize covX (iAt ds 10) (iAt ds 11) (iAt ds 12) (iAt ds 13) (rAt ds 14) (iAt ds 27) (iAt ds 28) = c2 at *
  generalize featB (iAt ds 0) (iAt ds 1) (iAt ds 2) (iAt ds 3) (iAt ds 4) (rAt ds 5) (iAt ds 6) (iAt ds 7) (rAt ds 8) = v1 at *
  generalize featB (iAt ds 9) (iAt ds 10) (iAt ds 11) (iAt ds 12) (iAt ds 13) (rAt ds 14) (iAt ds 15) (iAt ds 16) (rAt ds 17) = v2 at *
  generalize featB (iAt ds 18) (iAt ds 19) (iAt ds 20) (iAt ds 21) (iAt ds 22) (rAt ds 23) (iAt ds 24) (iAt ds 25) (rAt ds 26) = v3 at *
  generalize placeB (iAt ds 27) (iAt ds 28) = pp at *
  have C1 : v1 = true → v2 = true → pp = true → h12 = true → c1 = true → c2 = true := fun a b c d e => (C a b c d e).1
  have C2 : v1 = true → v2 = true → pp = true → h12 = true → c1 = true → decide (iAt ds 15 ≤ iAt ds 6) = true := fun a b c d e => decide_eq_true (C a b c d e).2
  generalize decide (iAt ds 15 ≤ iAt ds 6) = dd at *
  clear C
  cases v1 <;> cases v2 <;> cases v3 <;> cases h11 <;> cases h12 <;> cases h23 <;> cases h13 <;> cases c1 <;> cases c2 <;> cases pp <;> cases dd <;> first | exact absurd (H rfl) (by decide) | exact absurd (T rfl rfl rfl rfl rfl) (by decide) | exact absurd (C1 rfl rfl rfl rfl rfl) (by decide) | exact absurd (C2 rfl rfl rfl rfl rfl) (by decide) | simp [cmpEv]
end Go.Proofs.Ytglepdhapakmbaa
