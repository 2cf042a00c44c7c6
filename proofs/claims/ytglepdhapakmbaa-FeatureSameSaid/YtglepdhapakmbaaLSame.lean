/- LSame, merged: TEo, Eo, Eq. -/
import Derived.Test.YtglepdhapakmbaaMW
import Derived.Test.YtglepdhapakmbaaLCovers
import Derived.Test.YtglepdhapakmbaaLTouches
set_option linter.unusedSimpArgs false
set_option linter.unusedVariables false
/- Chapter 07: trees of the laws FeatureSame, FeatureStands. -/
namespace Go.Proofs.Ytglepdhapakmbaa
open Go.RowKit
-- term trSame7: call Try.prog ctE11 (Lt.of []) 100 9 (symArgs 0 [feat, feat, feat, it]) [] 0
def trSame7 : TT OpR :=
(.ite (.fn 129 (.i (.var 0) (.i (.var 1) (.i (.var 2) (.i (.var 3) (.i (.var 4) (.x (.var 5) (.i (.var 6) (.i (.var 7) (.x (.var 8) (.i (.var 0) (.i (.var 1) (.i (.var 2) (.i (.var 3) (.i (.var 4) (.x (.var 5) (.i (.var 6) (.i (.var 7) (.x (.var 8) .nil)))))))))))))))))))
  (.ite (.eqb (.fn 129 (.i (.var 0) (.i (.var 1) (.i (.var 2) (.i (.var 3) (.i (.var 4) (.x (.var 5) (.i (.var 6) (.i (.var 7) (.x (.var 8) (.i (.var 9) (.i (.var 10) (.i (.var 11) (.i (.var 12) (.i (.var 13) (.x (.var 14) (.i (.var 15) (.i (.var 16) (.x (.var 17) .nil))))))))))))))))))) (.fn 129 (.i (.var 9) (.i (.var 10) (.i (.var 11) (.i (.var 12) (.i (.var 13) (.x (.var 14) (.i (.var 15) (.i (.var 16) (.x (.var 17) (.i (.var 0) (.i (.var 1) (.i (.var 2) (.i (.var 3) (.i (.var 4) (.x (.var 5) (.i (.var 6) (.i (.var 7) (.x (.var 8) .nil))))))))))))))))))))
    (.ite (.not (.fn 129 (.i (.var 0) (.i (.var 1) (.i (.var 2) (.i (.var 3) (.i (.var 4) (.x (.var 5) (.i (.var 6) (.i (.var 7) (.x (.var 8) (.i (.var 9) (.i (.var 10) (.i (.var 11) (.i (.var 12) (.i (.var 13) (.x (.var 14) (.i (.var 15) (.i (.var 16) (.x (.var 17) .nil))))))))))))))))))))
      (.ite (.eqb (.fn 129 (.i (.var 0) (.i (.var 1) (.i (.var 2) (.i (.var 3) (.i (.var 4) (.x (.var 5) (.i (.var 6) (.i (.var 7) (.x (.var 8) (.i (.var 27) (.i (.var 1) (.i (.var 2) (.i (.var 3) (.i (.var 4) (.x (.var 5) (.i (.var 6) (.i (.var 7) (.x (.var 8) .nil))))))))))))))))))) (.cmp .eql (.var 0) (.var 27)))
        (.ite (.eqb (.fn 129 (.i (.var 0) (.i (.var 1) (.i (.var 2) (.i (.var 3) (.i (.var 4) (.x (.var 5) (.i (.var 6) (.i (.var 7) (.x (.var 8) (.i (.var 0) (.i (.var 1) (.i (.var 2) (.i (.var 3) (.i (.var 4) (.x (.var 5) (.i (.var 27) (.i (.var 7) (.x (.var 8) .nil))))))))))))))))))) (.cmp .eql (.var 6) (.var 27)))
          (.ite (.not (.fn 129 (.i (.var 0) (.i (.var 1) (.i (.var 2) (.i (.var 3) (.i (.var 4) (.x (.var 5) (.i (.var 6) (.i (.var 7) (.x (.var 8) (.i (.var 9) (.i (.var 10) (.i (.var 11) (.i (.var 12) (.i (.var 13) (.x (.var 14) (.i (.var 15) (.i (.var 16) (.x (.var 17) .nil))))))))))))))))))))
            (.ret ((.v (.one (.z (.bool (.eqb (.fn 129 (.i (.var 0) (.i (.var 1) (.i (.var 2) (.i (.var 3) (.i (.var 4) (.x (.var 5) (.i (.var 6) (.i (.var 7) (.x (.var 8) (.i (.var 0) (.i (.var 1) (.i (.var 2) (.i (.var 3) (.i (.var 4) (.x (.var 5) (.i (.var 6) (.i (.var 27) (.x (.var 8) .nil))))))))))))))))))) (.cmp .eql (.var 7) (.var 27))))))), [], 4))
            (.ite (.not (.fn 76 (.i (.var 0) (.i (.var 1) (.i (.var 2) (.i (.var 3) (.i (.var 4) (.x (.var 5) (.i (.var 6) (.i (.var 7) (.x (.var 8) .nil)))))))))))
              (.ite (.eqb (.fn 129 (.i (.var 0) (.i (.var 1) (.i (.var 2) (.i (.var 3) (.i (.var 4) (.x (.var 5) (.i (.var 6) (.i (.var 7) (.x (.var 8) (.i (.var 0) (.i (.var 1) (.i (.var 2) (.i (.var 3) (.i (.var 4) (.x (.var 5) (.i (.var 6) (.i (.var 27) (.x (.var 8) .nil))))))))))))))))))) (.cmp .eql (.var 7) (.var 27)))
                (.ite (.not (.fn 76 (.i (.var 9) (.i (.var 10) (.i (.var 11) (.i (.var 12) (.i (.var 13) (.x (.var 14) (.i (.var 15) (.i (.var 16) (.x (.var 17) .nil)))))))))))
                  (.ite (.cmp .eql (.fn 119 (.i (.var 0) (.i (.var 1) (.i (.var 2) (.i (.var 3) (.i (.var 4) (.x (.var 5) (.i (.var 6) (.i (.var 7) (.x (.var 8) (.i (.var 9) (.i (.var 10) (.i (.var 11) (.i (.var 12) (.i (.var 13) (.x (.var 14) (.i (.var 15) (.i (.var 16) (.x (.var 17) .nil))))))))))))))))))) (.lit 1))
                    (.ret ((.v (.one (.z (.bool (.cmp .eql (.fn 119 (.i (.var 0) (.i (.var 1) (.i (.var 2) (.i (.var 3) (.i (.var 4) (.x (.var 5) (.i (.var 6) (.i (.var 7) (.x (.var 8) (.i (.var 9) (.i (.var 10) (.i (.var 11) (.i (.var 12) (.i (.var 13) (.x (.var 14) (.i (.var 15) (.i (.var 16) (.x (.var 17) .nil))))))))))))))))))) (.lit 1)))))), [], 4))
                    (.ret ((.v (.one (.z (.bool (.lit false))))), [], 4)))
                  (.ret ((.v (.one (.z (.bool (.lit false))))), [], 4)))
                (.ret ((.v (.one (.z (.bool (.lit false))))), [], 4)))
              (.ite (.eqb (.fn 129 (.i (.var 0) (.i (.var 1) (.i (.var 2) (.i (.var 3) (.i (.var 4) (.x (.var 5) (.i (.var 6) (.i (.var 7) (.x (.var 8) (.i (.var 0) (.i (.var 1) (.i (.var 2) (.i (.var 3) (.i (.var 4) (.x (.var 5) (.i (.var 6) (.i (.var 27) (.x (.var 8) .nil))))))))))))))))))) (.cmp .eql (.var 7) (.var 27)))
                (.ite (.fn 76 (.i (.var 9) (.i (.var 10) (.i (.var 11) (.i (.var 12) (.i (.var 13) (.x (.var 14) (.i (.var 15) (.i (.var 16) (.x (.var 17) .nil))))))))))
                  (.ite (.cmp .eql (.fn 119 (.i (.var 0) (.i (.var 1) (.i (.var 2) (.i (.var 3) (.i (.var 4) (.x (.var 5) (.i (.var 6) (.i (.var 7) (.x (.var 8) (.i (.var 9) (.i (.var 10) (.i (.var 11) (.i (.var 12) (.i (.var 13) (.x (.var 14) (.i (.var 15) (.i (.var 16) (.x (.var 17) .nil))))))))))))))))))) (.lit 0))
                    (.ite (.cmp .eql (.fn 119 (.i (.var 0) (.i (.var 1) (.i (.var 2) (.i (.var 3) (.i (.var 4) (.x (.var 5) (.i (.var 6) (.i (.var 7) (.x (.var 8) (.i (.var 9) (.i (.var 10) (.i (.var 11) (.i (.var 12) (.i (.var 13) (.x (.var 14) (.i (.var 15) (.i (.var 16) (.x (.var 17) .nil))))))))))))))))))) (.lit 0))
                      (.ite (.fn 119 (.i (.var 0) (.i (.var 1) (.i (.var 2) (.i (.var 3) (.i (.var 4) (.x (.var 5) (.i (.var 6) (.i (.var 7) (.x (.var 8) (.i (.var 9) (.i (.var 10) (.i (.var 11) (.i (.var 12) (.i (.var 13) (.x (.var 14) (.i (.var 15) (.i (.var 16) (.x (.var 17) .nil)))))))))))))))))))
                        (.ret ((.v (.one (.z (.bool (.fn 128 (.i (.var 0) (.i (.var 1) (.i (.var 2) (.i (.var 3) (.i (.var 4) (.x (.var 5) (.i (.var 6) (.i (.var 7) (.x (.var 8) (.i (.var 9) (.i (.var 10) (.i (.var 11) (.i (.var 12) (.i (.var 13) (.x (.var 14) (.i (.var 15) (.i (.var 16) (.x (.var 17) .nil))))))))))))))))))))))), [], 4))
                        (.ret ((.v (.one (.z (.bool (.lit false))))), [], 4)))
                      (.ret ((.v (.one (.z (.bool (.lit false))))), [], 4)))
                    (.ret ((.v (.one (.z (.bool (.lit false))))), [], 4)))
                  (.ret ((.v (.one (.z (.bool (.lit false))))), [], 4)))
                (.ret ((.v (.one (.z (.bool (.lit false))))), [], 4)))))
          (.ite (.not (.fn 129 (.i (.var 0) (.i (.var 1) (.i (.var 2) (.i (.var 3) (.i (.var 4) (.x (.var 5) (.i (.var 6) (.i (.var 7) (.x (.var 8) (.i (.var 9) (.i (.var 10) (.i (.var 11) (.i (.var 12) (.i (.var 13) (.x (.var 14) (.i (.var 15) (.i (.var 16) (.x (.var 17) .nil))))))))))))))))))))
            (.ret ((.v (.one (.z (.bool (.lit false))))), [], 4))
            (.ite (.not (.fn 76 (.i (.var 0) (.i (.var 1) (.i (.var 2) (.i (.var 3) (.i (.var 4) (.x (.var 5) (.i (.var 6) (.i (.var 7) (.x (.var 8) .nil)))))))))))
              (.ret ((.v (.one (.z (.bool (.lit false))))), [], 4))
              (.ret ((.v (.one (.z (.bool (.lit false))))), [], 4)))))
        (.ite (.not (.fn 129 (.i (.var 0) (.i (.var 1) (.i (.var 2) (.i (.var 3) (.i (.var 4) (.x (.var 5) (.i (.var 6) (.i (.var 7) (.x (.var 8) (.i (.var 9) (.i (.var 10) (.i (.var 11) (.i (.var 12) (.i (.var 13) (.x (.var 14) (.i (.var 15) (.i (.var 16) (.x (.var 17) .nil))))))))))))))))))))
          (.ret ((.v (.one (.z (.bool (.lit false))))), [], 4))
          (.ite (.not (.fn 76 (.i (.var 0) (.i (.var 1) (.i (.var 2) (.i (.var 3) (.i (.var 4) (.x (.var 5) (.i (.var 6) (.i (.var 7) (.x (.var 8) .nil)))))))))))
            (.ret ((.v (.one (.z (.bool (.lit false))))), [], 4))
            (.ret ((.v (.one (.z (.bool (.lit false))))), [], 4)))))
      (.ite (.not (.fn 129 (.i (.var 9) (.i (.var 10) (.i (.var 11) (.i (.var 12) (.i (.var 13) (.x (.var 14) (.i (.var 15) (.i (.var 16) (.x (.var 17) (.i (.var 18) (.i (.var 19) (.i (.var 20) (.i (.var 21) (.i (.var 22) (.x (.var 23) (.i (.var 24) (.i (.var 25) (.x (.var 26) .nil))))))))))))))))))))
        (.ite (.eqb (.fn 129 (.i (.var 0) (.i (.var 1) (.i (.var 2) (.i (.var 3) (.i (.var 4) (.x (.var 5) (.i (.var 6) (.i (.var 7) (.x (.var 8) (.i (.var 27) (.i (.var 1) (.i (.var 2) (.i (.var 3) (.i (.var 4) (.x (.var 5) (.i (.var 6) (.i (.var 7) (.x (.var 8) .nil))))))))))))))))))) (.cmp .eql (.var 0) (.var 27)))
          (.ite (.eqb (.fn 129 (.i (.var 0) (.i (.var 1) (.i (.var 2) (.i (.var 3) (.i (.var 4) (.x (.var 5) (.i (.var 6) (.i (.var 7) (.x (.var 8) (.i (.var 0) (.i (.var 1) (.i (.var 2) (.i (.var 3) (.i (.var 4) (.x (.var 5) (.i (.var 27) (.i (.var 7) (.x (.var 8) .nil))))))))))))))))))) (.cmp .eql (.var 6) (.var 27)))
            (.ite (.not (.fn 129 (.i (.var 0) (.i (.var 1) (.i (.var 2) (.i (.var 3) (.i (.var 4) (.x (.var 5) (.i (.var 6) (.i (.var 7) (.x (.var 8) (.i (.var 9) (.i (.var 10) (.i (.var 11) (.i (.var 12) (.i (.var 13) (.x (.var 14) (.i (.var 15) (.i (.var 16) (.x (.var 17) .nil))))))))))))))))))))
              (.ret ((.v (.one (.z (.bool (.eqb (.fn 129 (.i (.var 0) (.i (.var 1) (.i (.var 2) (.i (.var 3) (.i (.var 4) (.x (.var 5) (.i (.var 6) (.i (.var 7) (.x (.var 8) (.i (.var 0) (.i (.var 1) (.i (.var 2) (.i (.var 3) (.i (.var 4) (.x (.var 5) (.i (.var 6) (.i (.var 27) (.x (.var 8) .nil))))))))))))))))))) (.cmp .eql (.var 7) (.var 27))))))), [], 4))
              (.ite (.not (.fn 76 (.i (.var 0) (.i (.var 1) (.i (.var 2) (.i (.var 3) (.i (.var 4) (.x (.var 5) (.i (.var 6) (.i (.var 7) (.x (.var 8) .nil)))))))))))
                (.ite (.eqb (.fn 129 (.i (.var 0) (.i (.var 1) (.i (.var 2) (.i (.var 3) (.i (.var 4) (.x (.var 5) (.i (.var 6) (.i (.var 7) (.x (.var 8) (.i (.var 0) (.i (.var 1) (.i (.var 2) (.i (.var 3) (.i (.var 4) (.x (.var 5) (.i (.var 6) (.i (.var 27) (.x (.var 8) .nil))))))))))))))))))) (.cmp .eql (.var 7) (.var 27)))
                  (.ite (.not (.fn 76 (.i (.var 9) (.i (.var 10) (.i (.var 11) (.i (.var 12) (.i (.var 13) (.x (.var 14) (.i (.var 15) (.i (.var 16) (.x (.var 17) .nil)))))))))))
                    (.ite (.cmp .eql (.fn 119 (.i (.var 0) (.i (.var 1) (.i (.var 2) (.i (.var 3) (.i (.var 4) (.x (.var 5) (.i (.var 6) (.i (.var 7) (.x (.var 8) (.i (.var 9) (.i (.var 10) (.i (.var 11) (.i (.var 12) (.i (.var 13) (.x (.var 14) (.i (.var 15) (.i (.var 16) (.x (.var 17) .nil))))))))))))))))))) (.lit 1))
                      (.ret ((.v (.one (.z (.bool (.cmp .eql (.fn 119 (.i (.var 0) (.i (.var 1) (.i (.var 2) (.i (.var 3) (.i (.var 4) (.x (.var 5) (.i (.var 6) (.i (.var 7) (.x (.var 8) (.i (.var 9) (.i (.var 10) (.i (.var 11) (.i (.var 12) (.i (.var 13) (.x (.var 14) (.i (.var 15) (.i (.var 16) (.x (.var 17) .nil))))))))))))))))))) (.lit 1)))))), [], 4))
                      (.ret ((.v (.one (.z (.bool (.lit false))))), [], 4)))
                    (.ret ((.v (.one (.z (.bool (.lit false))))), [], 4)))
                  (.ret ((.v (.one (.z (.bool (.lit false))))), [], 4)))
                (.ite (.eqb (.fn 129 (.i (.var 0) (.i (.var 1) (.i (.var 2) (.i (.var 3) (.i (.var 4) (.x (.var 5) (.i (.var 6) (.i (.var 7) (.x (.var 8) (.i (.var 0) (.i (.var 1) (.i (.var 2) (.i (.var 3) (.i (.var 4) (.x (.var 5) (.i (.var 6) (.i (.var 27) (.x (.var 8) .nil))))))))))))))))))) (.cmp .eql (.var 7) (.var 27)))
                  (.ite (.fn 76 (.i (.var 9) (.i (.var 10) (.i (.var 11) (.i (.var 12) (.i (.var 13) (.x (.var 14) (.i (.var 15) (.i (.var 16) (.x (.var 17) .nil))))))))))
                    (.ite (.cmp .eql (.fn 119 (.i (.var 0) (.i (.var 1) (.i (.var 2) (.i (.var 3) (.i (.var 4) (.x (.var 5) (.i (.var 6) (.i (.var 7) (.x (.var 8) (.i (.var 9) (.i (.var 10) (.i (.var 11) (.i (.var 12) (.i (.var 13) (.x (.var 14) (.i (.var 15) (.i (.var 16) (.x (.var 17) .nil))))))))))))))))))) (.lit 0))
                      (.ite (.cmp .eql (.fn 119 (.i (.var 0) (.i (.var 1) (.i (.var 2) (.i (.var 3) (.i (.var 4) (.x (.var 5) (.i (.var 6) (.i (.var 7) (.x (.var 8) (.i (.var 9) (.i (.var 10) (.i (.var 11) (.i (.var 12) (.i (.var 13) (.x (.var 14) (.i (.var 15) (.i (.var 16) (.x (.var 17) .nil))))))))))))))))))) (.lit 0))
                        (.ite (.fn 119 (.i (.var 0) (.i (.var 1) (.i (.var 2) (.i (.var 3) (.i (.var 4) (.x (.var 5) (.i (.var 6) (.i (.var 7) (.x (.var 8) (.i (.var 9) (.i (.var 10) (.i (.var 11) (.i (.var 12) (.i (.var 13) (.x (.var 14) (.i (.var 15) (.i (.var 16) (.x (.var 17) .nil)))))))))))))))))))
                          (.ret ((.v (.one (.z (.bool (.fn 128 (.i (.var 0) (.i (.var 1) (.i (.var 2) (.i (.var 3) (.i (.var 4) (.x (.var 5) (.i (.var 6) (.i (.var 7) (.x (.var 8) (.i (.var 9) (.i (.var 10) (.i (.var 11) (.i (.var 12) (.i (.var 13) (.x (.var 14) (.i (.var 15) (.i (.var 16) (.x (.var 17) .nil))))))))))))))))))))))), [], 4))
                          (.ret ((.v (.one (.z (.bool (.lit false))))), [], 4)))
                        (.ret ((.v (.one (.z (.bool (.lit false))))), [], 4)))
                      (.ret ((.v (.one (.z (.bool (.lit false))))), [], 4)))
                    (.ret ((.v (.one (.z (.bool (.lit false))))), [], 4)))
                  (.ret ((.v (.one (.z (.bool (.lit false))))), [], 4)))))
            (.ite (.not (.fn 129 (.i (.var 0) (.i (.var 1) (.i (.var 2) (.i (.var 3) (.i (.var 4) (.x (.var 5) (.i (.var 6) (.i (.var 7) (.x (.var 8) (.i (.var 9) (.i (.var 10) (.i (.var 11) (.i (.var 12) (.i (.var 13) (.x (.var 14) (.i (.var 15) (.i (.var 16) (.x (.var 17) .nil))))))))))))))))))))
              (.ret ((.v (.one (.z (.bool (.lit false))))), [], 4))
              (.ite (.not (.fn 76 (.i (.var 0) (.i (.var 1) (.i (.var 2) (.i (.var 3) (.i (.var 4) (.x (.var 5) (.i (.var 6) (.i (.var 7) (.x (.var 8) .nil)))))))))))
                (.ret ((.v (.one (.z (.bool (.lit false))))), [], 4))
                (.ret ((.v (.one (.z (.bool (.lit false))))), [], 4)))))
          (.ite (.not (.fn 129 (.i (.var 0) (.i (.var 1) (.i (.var 2) (.i (.var 3) (.i (.var 4) (.x (.var 5) (.i (.var 6) (.i (.var 7) (.x (.var 8) (.i (.var 9) (.i (.var 10) (.i (.var 11) (.i (.var 12) (.i (.var 13) (.x (.var 14) (.i (.var 15) (.i (.var 16) (.x (.var 17) .nil))))))))))))))))))))
            (.ret ((.v (.one (.z (.bool (.lit false))))), [], 4))
            (.ite (.not (.fn 76 (.i (.var 0) (.i (.var 1) (.i (.var 2) (.i (.var 3) (.i (.var 4) (.x (.var 5) (.i (.var 6) (.i (.var 7) (.x (.var 8) .nil)))))))))))
              (.ret ((.v (.one (.z (.bool (.lit false))))), [], 4))
              (.ret ((.v (.one (.z (.bool (.lit false))))), [], 4)))))
        (.ite (.fn 129 (.i (.var 0) (.i (.var 1) (.i (.var 2) (.i (.var 3) (.i (.var 4) (.x (.var 5) (.i (.var 6) (.i (.var 7) (.x (.var 8) (.i (.var 18) (.i (.var 19) (.i (.var 20) (.i (.var 21) (.i (.var 22) (.x (.var 23) (.i (.var 24) (.i (.var 25) (.x (.var 26) .nil)))))))))))))))))))
          (.ite (.eqb (.fn 129 (.i (.var 0) (.i (.var 1) (.i (.var 2) (.i (.var 3) (.i (.var 4) (.x (.var 5) (.i (.var 6) (.i (.var 7) (.x (.var 8) (.i (.var 27) (.i (.var 1) (.i (.var 2) (.i (.var 3) (.i (.var 4) (.x (.var 5) (.i (.var 6) (.i (.var 7) (.x (.var 8) .nil))))))))))))))))))) (.cmp .eql (.var 0) (.var 27)))
            (.ite (.eqb (.fn 129 (.i (.var 0) (.i (.var 1) (.i (.var 2) (.i (.var 3) (.i (.var 4) (.x (.var 5) (.i (.var 6) (.i (.var 7) (.x (.var 8) (.i (.var 0) (.i (.var 1) (.i (.var 2) (.i (.var 3) (.i (.var 4) (.x (.var 5) (.i (.var 27) (.i (.var 7) (.x (.var 8) .nil))))))))))))))))))) (.cmp .eql (.var 6) (.var 27)))
              (.ite (.not (.fn 129 (.i (.var 0) (.i (.var 1) (.i (.var 2) (.i (.var 3) (.i (.var 4) (.x (.var 5) (.i (.var 6) (.i (.var 7) (.x (.var 8) (.i (.var 9) (.i (.var 10) (.i (.var 11) (.i (.var 12) (.i (.var 13) (.x (.var 14) (.i (.var 15) (.i (.var 16) (.x (.var 17) .nil))))))))))))))))))))
                (.ret ((.v (.one (.z (.bool (.eqb (.fn 129 (.i (.var 0) (.i (.var 1) (.i (.var 2) (.i (.var 3) (.i (.var 4) (.x (.var 5) (.i (.var 6) (.i (.var 7) (.x (.var 8) (.i (.var 0) (.i (.var 1) (.i (.var 2) (.i (.var 3) (.i (.var 4) (.x (.var 5) (.i (.var 6) (.i (.var 27) (.x (.var 8) .nil))))))))))))))))))) (.cmp .eql (.var 7) (.var 27))))))), [], 4))
                (.ite (.not (.fn 76 (.i (.var 0) (.i (.var 1) (.i (.var 2) (.i (.var 3) (.i (.var 4) (.x (.var 5) (.i (.var 6) (.i (.var 7) (.x (.var 8) .nil)))))))))))
                  (.ite (.eqb (.fn 129 (.i (.var 0) (.i (.var 1) (.i (.var 2) (.i (.var 3) (.i (.var 4) (.x (.var 5) (.i (.var 6) (.i (.var 7) (.x (.var 8) (.i (.var 0) (.i (.var 1) (.i (.var 2) (.i (.var 3) (.i (.var 4) (.x (.var 5) (.i (.var 6) (.i (.var 27) (.x (.var 8) .nil))))))))))))))))))) (.cmp .eql (.var 7) (.var 27)))
                    (.ite (.not (.fn 76 (.i (.var 9) (.i (.var 10) (.i (.var 11) (.i (.var 12) (.i (.var 13) (.x (.var 14) (.i (.var 15) (.i (.var 16) (.x (.var 17) .nil)))))))))))
                      (.ite (.cmp .eql (.fn 119 (.i (.var 0) (.i (.var 1) (.i (.var 2) (.i (.var 3) (.i (.var 4) (.x (.var 5) (.i (.var 6) (.i (.var 7) (.x (.var 8) (.i (.var 9) (.i (.var 10) (.i (.var 11) (.i (.var 12) (.i (.var 13) (.x (.var 14) (.i (.var 15) (.i (.var 16) (.x (.var 17) .nil))))))))))))))))))) (.lit 1))
                        (.ret ((.v (.one (.z (.bool (.cmp .eql (.fn 119 (.i (.var 0) (.i (.var 1) (.i (.var 2) (.i (.var 3) (.i (.var 4) (.x (.var 5) (.i (.var 6) (.i (.var 7) (.x (.var 8) (.i (.var 9) (.i (.var 10) (.i (.var 11) (.i (.var 12) (.i (.var 13) (.x (.var 14) (.i (.var 15) (.i (.var 16) (.x (.var 17) .nil))))))))))))))))))) (.lit 1)))))), [], 4))
                        (.ret ((.v (.one (.z (.bool (.lit false))))), [], 4)))
                      (.ret ((.v (.one (.z (.bool (.lit false))))), [], 4)))
                    (.ret ((.v (.one (.z (.bool (.lit false))))), [], 4)))
                  (.ite (.eqb (.fn 129 (.i (.var 0) (.i (.var 1) (.i (.var 2) (.i (.var 3) (.i (.var 4) (.x (.var 5) (.i (.var 6) (.i (.var 7) (.x (.var 8) (.i (.var 0) (.i (.var 1) (.i (.var 2) (.i (.var 3) (.i (.var 4) (.x (.var 5) (.i (.var 6) (.i (.var 27) (.x (.var 8) .nil))))))))))))))))))) (.cmp .eql (.var 7) (.var 27)))
                    (.ite (.fn 76 (.i (.var 9) (.i (.var 10) (.i (.var 11) (.i (.var 12) (.i (.var 13) (.x (.var 14) (.i (.var 15) (.i (.var 16) (.x (.var 17) .nil))))))))))
                      (.ite (.cmp .eql (.fn 119 (.i (.var 0) (.i (.var 1) (.i (.var 2) (.i (.var 3) (.i (.var 4) (.x (.var 5) (.i (.var 6) (.i (.var 7) (.x (.var 8) (.i (.var 9) (.i (.var 10) (.i (.var 11) (.i (.var 12) (.i (.var 13) (.x (.var 14) (.i (.var 15) (.i (.var 16) (.x (.var 17) .nil))))))))))))))))))) (.lit 0))
                        (.ite (.cmp .eql (.fn 119 (.i (.var 0) (.i (.var 1) (.i (.var 2) (.i (.var 3) (.i (.var 4) (.x (.var 5) (.i (.var 6) (.i (.var 7) (.x (.var 8) (.i (.var 9) (.i (.var 10) (.i (.var 11) (.i (.var 12) (.i (.var 13) (.x (.var 14) (.i (.var 15) (.i (.var 16) (.x (.var 17) .nil))))))))))))))))))) (.lit 0))
                          (.ite (.fn 119 (.i (.var 0) (.i (.var 1) (.i (.var 2) (.i (.var 3) (.i (.var 4) (.x (.var 5) (.i (.var 6) (.i (.var 7) (.x (.var 8) (.i (.var 9) (.i (.var 10) (.i (.var 11) (.i (.var 12) (.i (.var 13) (.x (.var 14) (.i (.var 15) (.i (.var 16) (.x (.var 17) .nil)))))))))))))))))))
                            (.ret ((.v (.one (.z (.bool (.fn 128 (.i (.var 0) (.i (.var 1) (.i (.var 2) (.i (.var 3) (.i (.var 4) (.x (.var 5) (.i (.var 6) (.i (.var 7) (.x (.var 8) (.i (.var 9) (.i (.var 10) (.i (.var 11) (.i (.var 12) (.i (.var 13) (.x (.var 14) (.i (.var 15) (.i (.var 16) (.x (.var 17) .nil))))))))))))))))))))))), [], 4))
                            (.ret ((.v (.one (.z (.bool (.lit false))))), [], 4)))
                          (.ret ((.v (.one (.z (.bool (.lit false))))), [], 4)))
                        (.ret ((.v (.one (.z (.bool (.lit false))))), [], 4)))
                      (.ret ((.v (.one (.z (.bool (.lit false))))), [], 4)))
                    (.ret ((.v (.one (.z (.bool (.lit false))))), [], 4)))))
              (.ite (.not (.fn 129 (.i (.var 0) (.i (.var 1) (.i (.var 2) (.i (.var 3) (.i (.var 4) (.x (.var 5) (.i (.var 6) (.i (.var 7) (.x (.var 8) (.i (.var 9) (.i (.var 10) (.i (.var 11) (.i (.var 12) (.i (.var 13) (.x (.var 14) (.i (.var 15) (.i (.var 16) (.x (.var 17) .nil))))))))))))))))))))
                (.ret ((.v (.one (.z (.bool (.lit false))))), [], 4))
                (.ite (.not (.fn 76 (.i (.var 0) (.i (.var 1) (.i (.var 2) (.i (.var 3) (.i (.var 4) (.x (.var 5) (.i (.var 6) (.i (.var 7) (.x (.var 8) .nil)))))))))))
                  (.ret ((.v (.one (.z (.bool (.lit false))))), [], 4))
                  (.ret ((.v (.one (.z (.bool (.lit false))))), [], 4)))))
            (.ite (.not (.fn 129 (.i (.var 0) (.i (.var 1) (.i (.var 2) (.i (.var 3) (.i (.var 4) (.x (.var 5) (.i (.var 6) (.i (.var 7) (.x (.var 8) (.i (.var 9) (.i (.var 10) (.i (.var 11) (.i (.var 12) (.i (.var 13) (.x (.var 14) (.i (.var 15) (.i (.var 16) (.x (.var 17) .nil))))))))))))))))))))
              (.ret ((.v (.one (.z (.bool (.lit false))))), [], 4))
              (.ite (.not (.fn 76 (.i (.var 0) (.i (.var 1) (.i (.var 2) (.i (.var 3) (.i (.var 4) (.x (.var 5) (.i (.var 6) (.i (.var 7) (.x (.var 8) .nil)))))))))))
                (.ret ((.v (.one (.z (.bool (.lit false))))), [], 4))
                (.ret ((.v (.one (.z (.bool (.lit false))))), [], 4)))))
          (.ite (.not (.fn 129 (.i (.var 0) (.i (.var 1) (.i (.var 2) (.i (.var 3) (.i (.var 4) (.x (.var 5) (.i (.var 6) (.i (.var 7) (.x (.var 8) (.i (.var 9) (.i (.var 10) (.i (.var 11) (.i (.var 12) (.i (.var 13) (.x (.var 14) (.i (.var 15) (.i (.var 16) (.x (.var 17) .nil))))))))))))))))))))
            (.ret ((.v (.one (.z (.bool (.lit false))))), [], 4))
            (.ite (.not (.fn 76 (.i (.var 0) (.i (.var 1) (.i (.var 2) (.i (.var 3) (.i (.var 4) (.x (.var 5) (.i (.var 6) (.i (.var 7) (.x (.var 8) .nil)))))))))))
              (.ret ((.v (.one (.z (.bool (.lit false))))), [], 4))
              (.ret ((.v (.one (.z (.bool (.lit false))))), [], 4)))))))
    (.ite (.not (.fn 129 (.i (.var 0) (.i (.var 1) (.i (.var 2) (.i (.var 3) (.i (.var 4) (.x (.var 5) (.i (.var 6) (.i (.var 7) (.x (.var 8) (.i (.var 9) (.i (.var 10) (.i (.var 11) (.i (.var 12) (.i (.var 13) (.x (.var 14) (.i (.var 15) (.i (.var 16) (.x (.var 17) .nil))))))))))))))))))))
      (.ret ((.v (.one (.z (.bool (.lit false))))), [], 4))
      (.ite (.not (.fn 76 (.i (.var 0) (.i (.var 1) (.i (.var 2) (.i (.var 3) (.i (.var 4) (.x (.var 5) (.i (.var 6) (.i (.var 7) (.x (.var 8) .nil)))))))))))
        (.ret ((.v (.one (.z (.bool (.lit false))))), [], 4))
        (.ret ((.v (.one (.z (.bool (.lit false))))), [], 4)))))
  (.ite (.not (.fn 129 (.i (.var 0) (.i (.var 1) (.i (.var 2) (.i (.var 3) (.i (.var 4) (.x (.var 5) (.i (.var 6) (.i (.var 7) (.x (.var 8) (.i (.var 9) (.i (.var 10) (.i (.var 11) (.i (.var 12) (.i (.var 13) (.x (.var 14) (.i (.var 15) (.i (.var 16) (.x (.var 17) .nil))))))))))))))))))))
    (.ret ((.v (.one (.z (.bool (.lit false))))), [], 4))
    (.ite (.not (.fn 76 (.i (.var 0) (.i (.var 1) (.i (.var 2) (.i (.var 3) (.i (.var 4) (.x (.var 5) (.i (.var 6) (.i (.var 7) (.x (.var 8) .nil)))))))))))
      (.ret ((.v (.one (.z (.bool (.lit false))))), [], 4))
      (.ret ((.v (.one (.z (.bool (.lit false))))), [], 4)))))
-- end trSame7
set_option maxRecDepth 100000 in
theorem trSame7_is : T.norm 0 (call Try.prog ctE11 (Lt.of []) 100 9 (symArgs 0 [feat, feat, feat, it]) [] 0) TT.ret = trSame7 := by kernel_rfl
theorem trSame7_low : trSame7.low 1000 = true := by kernel_rfl
-- term trStands7: call Try.prog ctE11 (Lt.of []) 100 5 (symArgs 0 [feat, feat, feat, pt]) [] 0
def trStands7 : TT OpR :=
(.ite (.eqb (.cmp .eql (.fn 119 (.i (.var 0) (.i (.var 1) (.i (.var 2) (.i (.var 3) (.i (.var 4) (.x (.var 5) (.i (.var 6) (.i (.var 7) (.x (.var 8) (.i (.var 0) (.i (.var 1) (.i (.var 2) (.i (.var 3) (.i (.var 4) (.x (.var 5) (.i (.var 6) (.i (.var 7) (.x (.var 8) .nil))))))))))))))))))) (.lit 0)) (.fn 76 (.i (.var 0) (.i (.var 1) (.i (.var 2) (.i (.var 3) (.i (.var 4) (.x (.var 5) (.i (.var 6) (.i (.var 7) (.x (.var 8) .nil)))))))))))
  (.ite (.cmp .eql (.fn 119 (.i (.var 0) (.i (.var 1) (.i (.var 2) (.i (.var 3) (.i (.var 4) (.x (.var 5) (.i (.var 6) (.i (.var 7) (.x (.var 8) (.i (.var 9) (.i (.var 10) (.i (.var 11) (.i (.var 12) (.i (.var 13) (.x (.var 14) (.i (.var 15) (.i (.var 16) (.x (.var 17) .nil))))))))))))))))))) (.lit 0))
    (.ite (.cmp .eql (.fn 119 (.i (.var 9) (.i (.var 10) (.i (.var 11) (.i (.var 12) (.i (.var 13) (.x (.var 14) (.i (.var 15) (.i (.var 16) (.x (.var 17) (.i (.var 18) (.i (.var 19) (.i (.var 20) (.i (.var 21) (.i (.var 22) (.x (.var 23) (.i (.var 24) (.i (.var 25) (.x (.var 26) .nil))))))))))))))))))) (.lit 0))
      (.ite (.eqb (.fn 128 (.i (.var 0) (.i (.var 1) (.i (.var 2) (.i (.var 3) (.i (.var 4) (.x (.var 5) (.i (.var 6) (.i (.var 7) (.x (.var 8) (.i (.var 0) (.i (.var 1) (.i (.var 2) (.i (.var 3) (.i (.var 4) (.x (.var 5) (.i (.var 6) (.i (.var 7) (.x (.var 8) .nil))))))))))))))))))) (.cmp .eql (.fn 119 (.i (.var 0) (.i (.var 1) (.i (.var 2) (.i (.var 3) (.i (.var 4) (.x (.var 5) (.i (.var 6) (.i (.var 7) (.x (.var 8) (.i (.var 0) (.i (.var 1) (.i (.var 2) (.i (.var 3) (.i (.var 4) (.x (.var 5) (.i (.var 6) (.i (.var 7) (.x (.var 8) .nil))))))))))))))))))) (.lit 0)))
        (.ite (.cmp .eql (.fn 119 (.i (.var 0) (.i (.var 1) (.i (.var 2) (.i (.var 3) (.i (.var 4) (.x (.var 5) (.i (.var 6) (.i (.var 7) (.x (.var 8) (.i (.var 18) (.i (.var 19) (.i (.var 20) (.i (.var 21) (.i (.var 22) (.x (.var 23) (.i (.var 24) (.i (.var 25) (.x (.var 26) .nil))))))))))))))))))) (.lit 0))
          (.ite (.not (.fn 128 (.i (.var 0) (.i (.var 1) (.i (.var 2) (.i (.var 3) (.i (.var 4) (.x (.var 5) (.i (.var 6) (.i (.var 7) (.x (.var 8) (.i (.var 9) (.i (.var 10) (.i (.var 11) (.i (.var 12) (.i (.var 13) (.x (.var 14) (.i (.var 15) (.i (.var 16) (.x (.var 17) .nil))))))))))))))))))))
            (.ite (.cmp .neq (.fn 119 (.i (.var 0) (.i (.var 1) (.i (.var 2) (.i (.var 3) (.i (.var 4) (.x (.var 5) (.i (.var 6) (.i (.var 7) (.x (.var 8) (.i (.var 9) (.i (.var 10) (.i (.var 11) (.i (.var 12) (.i (.var 13) (.x (.var 14) (.i (.var 15) (.i (.var 16) (.x (.var 17) .nil))))))))))))))))))) (.lit 0))
              (.ret ((.v (.one (.z (.bool (.lit true))))), [], 4))
              (.ite (.cmp .neq (.fn 78 (.i (.var 0) (.i (.var 1) (.i (.var 2) (.i (.var 3) (.i (.var 4) (.x (.var 5) (.i (.var 6) (.i (.var 7) (.x (.var 8) (.i (.var 27) (.i (.var 28) .nil)))))))))))) (.lit 0))
                (.ret ((.v (.one (.z (.bool (.lit true))))), [], 4))
                (.ite (.not (.fn 128 (.i (.var 0) (.i (.var 1) (.i (.var 2) (.i (.var 3) (.i (.var 4) (.x (.var 5) (.i (.var 6) (.i (.var 7) (.x (.var 8) (.i (.var 9) (.i (.var 10) (.i (.var 11) (.i (.var 12) (.i (.var 13) (.x (.var 14) (.i (.var 15) (.i (.var 16) (.x (.var 17) .nil))))))))))))))))))))
                  (.ret ((.v (.one (.z (.bool (.lit true))))), [], 4))
                  (.ite (.not (.fn 78 (.i (.var 0) (.i (.var 1) (.i (.var 2) (.i (.var 3) (.i (.var 4) (.x (.var 5) (.i (.var 6) (.i (.var 7) (.x (.var 8) (.i (.var 27) (.i (.var 28) .nil)))))))))))))
                    (.ret ((.v (.one (.z (.bool (.lit true))))), [], 4))
                    (.ite (.cmp .eql (.fn 78 (.i (.var 9) (.i (.var 10) (.i (.var 11) (.i (.var 12) (.i (.var 13) (.x (.var 14) (.i (.var 15) (.i (.var 16) (.x (.var 17) (.i (.var 27) (.i (.var 28) .nil)))))))))))) (.lit 0))
                      (.ite (.fn 78 (.i (.var 9) (.i (.var 10) (.i (.var 11) (.i (.var 12) (.i (.var 13) (.x (.var 14) (.i (.var 15) (.i (.var 16) (.x (.var 17) (.i (.var 27) (.i (.var 28) .nil))))))))))))
                        (.ret ((.v (.one (.z (.bool (.cmp .leq (.var 15) (.var 6)))))), [], 4))
                        (.ret ((.v (.one (.z (.bool (.lit false))))), [], 4)))
                      (.ret ((.v (.one (.z (.bool (.lit false))))), [], 4)))))))
            (.ite (.not (.fn 128 (.i (.var 9) (.i (.var 10) (.i (.var 11) (.i (.var 12) (.i (.var 13) (.x (.var 14) (.i (.var 15) (.i (.var 16) (.x (.var 17) (.i (.var 18) (.i (.var 19) (.i (.var 20) (.i (.var 21) (.i (.var 22) (.x (.var 23) (.i (.var 24) (.i (.var 25) (.x (.var 26) .nil))))))))))))))))))))
              (.ite (.cmp .neq (.fn 119 (.i (.var 0) (.i (.var 1) (.i (.var 2) (.i (.var 3) (.i (.var 4) (.x (.var 5) (.i (.var 6) (.i (.var 7) (.x (.var 8) (.i (.var 9) (.i (.var 10) (.i (.var 11) (.i (.var 12) (.i (.var 13) (.x (.var 14) (.i (.var 15) (.i (.var 16) (.x (.var 17) .nil))))))))))))))))))) (.lit 0))
                (.ret ((.v (.one (.z (.bool (.lit true))))), [], 4))
                (.ite (.cmp .neq (.fn 78 (.i (.var 0) (.i (.var 1) (.i (.var 2) (.i (.var 3) (.i (.var 4) (.x (.var 5) (.i (.var 6) (.i (.var 7) (.x (.var 8) (.i (.var 27) (.i (.var 28) .nil)))))))))))) (.lit 0))
                  (.ret ((.v (.one (.z (.bool (.lit true))))), [], 4))
                  (.ite (.not (.fn 128 (.i (.var 0) (.i (.var 1) (.i (.var 2) (.i (.var 3) (.i (.var 4) (.x (.var 5) (.i (.var 6) (.i (.var 7) (.x (.var 8) (.i (.var 9) (.i (.var 10) (.i (.var 11) (.i (.var 12) (.i (.var 13) (.x (.var 14) (.i (.var 15) (.i (.var 16) (.x (.var 17) .nil))))))))))))))))))))
                    (.ret ((.v (.one (.z (.bool (.lit true))))), [], 4))
                    (.ite (.not (.fn 78 (.i (.var 0) (.i (.var 1) (.i (.var 2) (.i (.var 3) (.i (.var 4) (.x (.var 5) (.i (.var 6) (.i (.var 7) (.x (.var 8) (.i (.var 27) (.i (.var 28) .nil)))))))))))))
                      (.ret ((.v (.one (.z (.bool (.lit true))))), [], 4))
                      (.ite (.cmp .eql (.fn 78 (.i (.var 9) (.i (.var 10) (.i (.var 11) (.i (.var 12) (.i (.var 13) (.x (.var 14) (.i (.var 15) (.i (.var 16) (.x (.var 17) (.i (.var 27) (.i (.var 28) .nil)))))))))))) (.lit 0))
                        (.ite (.fn 78 (.i (.var 9) (.i (.var 10) (.i (.var 11) (.i (.var 12) (.i (.var 13) (.x (.var 14) (.i (.var 15) (.i (.var 16) (.x (.var 17) (.i (.var 27) (.i (.var 28) .nil))))))))))))
                          (.ret ((.v (.one (.z (.bool (.cmp .leq (.var 15) (.var 6)))))), [], 4))
                          (.ret ((.v (.one (.z (.bool (.lit false))))), [], 4)))
                        (.ret ((.v (.one (.z (.bool (.lit false))))), [], 4)))))))
              (.ite (.cmp .neq (.fn 119 (.i (.var 0) (.i (.var 1) (.i (.var 2) (.i (.var 3) (.i (.var 4) (.x (.var 5) (.i (.var 6) (.i (.var 7) (.x (.var 8) (.i (.var 9) (.i (.var 10) (.i (.var 11) (.i (.var 12) (.i (.var 13) (.x (.var 14) (.i (.var 15) (.i (.var 16) (.x (.var 17) .nil))))))))))))))))))) (.lit 0))
                (.ret ((.v (.one (.z (.bool (.fn 128 (.i (.var 0) (.i (.var 1) (.i (.var 2) (.i (.var 3) (.i (.var 4) (.x (.var 5) (.i (.var 6) (.i (.var 7) (.x (.var 8) (.i (.var 18) (.i (.var 19) (.i (.var 20) (.i (.var 21) (.i (.var 22) (.x (.var 23) (.i (.var 24) (.i (.var 25) (.x (.var 26) .nil))))))))))))))))))))))), [], 4))
                (.ite (.cmp .neq (.fn 78 (.i (.var 0) (.i (.var 1) (.i (.var 2) (.i (.var 3) (.i (.var 4) (.x (.var 5) (.i (.var 6) (.i (.var 7) (.x (.var 8) (.i (.var 27) (.i (.var 28) .nil)))))))))))) (.lit 0))
                  (.ret ((.v (.one (.z (.bool (.fn 128 (.i (.var 0) (.i (.var 1) (.i (.var 2) (.i (.var 3) (.i (.var 4) (.x (.var 5) (.i (.var 6) (.i (.var 7) (.x (.var 8) (.i (.var 18) (.i (.var 19) (.i (.var 20) (.i (.var 21) (.i (.var 22) (.x (.var 23) (.i (.var 24) (.i (.var 25) (.x (.var 26) .nil))))))))))))))))))))))), [], 4))
                  (.ite (.not (.fn 128 (.i (.var 0) (.i (.var 1) (.i (.var 2) (.i (.var 3) (.i (.var 4) (.x (.var 5) (.i (.var 6) (.i (.var 7) (.x (.var 8) (.i (.var 9) (.i (.var 10) (.i (.var 11) (.i (.var 12) (.i (.var 13) (.x (.var 14) (.i (.var 15) (.i (.var 16) (.x (.var 17) .nil))))))))))))))))))))
                    (.ret ((.v (.one (.z (.bool (.fn 128 (.i (.var 0) (.i (.var 1) (.i (.var 2) (.i (.var 3) (.i (.var 4) (.x (.var 5) (.i (.var 6) (.i (.var 7) (.x (.var 8) (.i (.var 18) (.i (.var 19) (.i (.var 20) (.i (.var 21) (.i (.var 22) (.x (.var 23) (.i (.var 24) (.i (.var 25) (.x (.var 26) .nil))))))))))))))))))))))), [], 4))
                    (.ite (.not (.fn 78 (.i (.var 0) (.i (.var 1) (.i (.var 2) (.i (.var 3) (.i (.var 4) (.x (.var 5) (.i (.var 6) (.i (.var 7) (.x (.var 8) (.i (.var 27) (.i (.var 28) .nil)))))))))))))
                      (.ret ((.v (.one (.z (.bool (.fn 128 (.i (.var 0) (.i (.var 1) (.i (.var 2) (.i (.var 3) (.i (.var 4) (.x (.var 5) (.i (.var 6) (.i (.var 7) (.x (.var 8) (.i (.var 18) (.i (.var 19) (.i (.var 20) (.i (.var 21) (.i (.var 22) (.x (.var 23) (.i (.var 24) (.i (.var 25) (.x (.var 26) .nil))))))))))))))))))))))), [], 4))
                      (.ite (.fn 128 (.i (.var 0) (.i (.var 1) (.i (.var 2) (.i (.var 3) (.i (.var 4) (.x (.var 5) (.i (.var 6) (.i (.var 7) (.x (.var 8) (.i (.var 18) (.i (.var 19) (.i (.var 20) (.i (.var 21) (.i (.var 22) (.x (.var 23) (.i (.var 24) (.i (.var 25) (.x (.var 26) .nil)))))))))))))))))))
                        (.ite (.cmp .eql (.fn 78 (.i (.var 9) (.i (.var 10) (.i (.var 11) (.i (.var 12) (.i (.var 13) (.x (.var 14) (.i (.var 15) (.i (.var 16) (.x (.var 17) (.i (.var 27) (.i (.var 28) .nil)))))))))))) (.lit 0))
                          (.ite (.fn 78 (.i (.var 9) (.i (.var 10) (.i (.var 11) (.i (.var 12) (.i (.var 13) (.x (.var 14) (.i (.var 15) (.i (.var 16) (.x (.var 17) (.i (.var 27) (.i (.var 28) .nil))))))))))))
                            (.ret ((.v (.one (.z (.bool (.cmp .leq (.var 15) (.var 6)))))), [], 4))
                            (.ret ((.v (.one (.z (.bool (.lit false))))), [], 4)))
                          (.ret ((.v (.one (.z (.bool (.lit false))))), [], 4)))
                        (.ret ((.v (.one (.z (.bool (.lit false))))), [], 4)))))))))
          (.ite (.cmp .neq (.fn 119 (.i (.var 0) (.i (.var 1) (.i (.var 2) (.i (.var 3) (.i (.var 4) (.x (.var 5) (.i (.var 6) (.i (.var 7) (.x (.var 8) (.i (.var 9) (.i (.var 10) (.i (.var 11) (.i (.var 12) (.i (.var 13) (.x (.var 14) (.i (.var 15) (.i (.var 16) (.x (.var 17) .nil))))))))))))))))))) (.lit 0))
            (.ret ((.v (.one (.z (.bool (.lit false))))), [], 4))
            (.ite (.cmp .neq (.fn 78 (.i (.var 0) (.i (.var 1) (.i (.var 2) (.i (.var 3) (.i (.var 4) (.x (.var 5) (.i (.var 6) (.i (.var 7) (.x (.var 8) (.i (.var 27) (.i (.var 28) .nil)))))))))))) (.lit 0))
              (.ret ((.v (.one (.z (.bool (.lit false))))), [], 4))
              (.ite (.not (.fn 128 (.i (.var 0) (.i (.var 1) (.i (.var 2) (.i (.var 3) (.i (.var 4) (.x (.var 5) (.i (.var 6) (.i (.var 7) (.x (.var 8) (.i (.var 9) (.i (.var 10) (.i (.var 11) (.i (.var 12) (.i (.var 13) (.x (.var 14) (.i (.var 15) (.i (.var 16) (.x (.var 17) .nil))))))))))))))))))))
                (.ret ((.v (.one (.z (.bool (.lit false))))), [], 4))
                (.ite (.not (.fn 78 (.i (.var 0) (.i (.var 1) (.i (.var 2) (.i (.var 3) (.i (.var 4) (.x (.var 5) (.i (.var 6) (.i (.var 7) (.x (.var 8) (.i (.var 27) (.i (.var 28) .nil)))))))))))))
                  (.ret ((.v (.one (.z (.bool (.lit false))))), [], 4))
                  (.ret ((.v (.one (.z (.bool (.lit false))))), [], 4)))))))
        (.ite (.cmp .neq (.fn 119 (.i (.var 0) (.i (.var 1) (.i (.var 2) (.i (.var 3) (.i (.var 4) (.x (.var 5) (.i (.var 6) (.i (.var 7) (.x (.var 8) (.i (.var 9) (.i (.var 10) (.i (.var 11) (.i (.var 12) (.i (.var 13) (.x (.var 14) (.i (.var 15) (.i (.var 16) (.x (.var 17) .nil))))))))))))))))))) (.lit 0))
          (.ret ((.v (.one (.z (.bool (.lit false))))), [], 4))
          (.ite (.cmp .neq (.fn 78 (.i (.var 0) (.i (.var 1) (.i (.var 2) (.i (.var 3) (.i (.var 4) (.x (.var 5) (.i (.var 6) (.i (.var 7) (.x (.var 8) (.i (.var 27) (.i (.var 28) .nil)))))))))))) (.lit 0))
            (.ret ((.v (.one (.z (.bool (.lit false))))), [], 4))
            (.ite (.not (.fn 128 (.i (.var 0) (.i (.var 1) (.i (.var 2) (.i (.var 3) (.i (.var 4) (.x (.var 5) (.i (.var 6) (.i (.var 7) (.x (.var 8) (.i (.var 9) (.i (.var 10) (.i (.var 11) (.i (.var 12) (.i (.var 13) (.x (.var 14) (.i (.var 15) (.i (.var 16) (.x (.var 17) .nil))))))))))))))))))))
              (.ret ((.v (.one (.z (.bool (.lit false))))), [], 4))
              (.ite (.not (.fn 78 (.i (.var 0) (.i (.var 1) (.i (.var 2) (.i (.var 3) (.i (.var 4) (.x (.var 5) (.i (.var 6) (.i (.var 7) (.x (.var 8) (.i (.var 27) (.i (.var 28) .nil)))))))))))))
                (.ret ((.v (.one (.z (.bool (.lit false))))), [], 4))
                (.ret ((.v (.one (.z (.bool (.lit false))))), [], 4)))))))
      (.ite (.cmp .neq (.fn 119 (.i (.var 0) (.i (.var 1) (.i (.var 2) (.i (.var 3) (.i (.var 4) (.x (.var 5) (.i (.var 6) (.i (.var 7) (.x (.var 8) (.i (.var 9) (.i (.var 10) (.i (.var 11) (.i (.var 12) (.i (.var 13) (.x (.var 14) (.i (.var 15) (.i (.var 16) (.x (.var 17) .nil))))))))))))))))))) (.lit 0))
        (.ret ((.v (.one (.z (.bool (.eqb (.fn 128 (.i (.var 0) (.i (.var 1) (.i (.var 2) (.i (.var 3) (.i (.var 4) (.x (.var 5) (.i (.var 6) (.i (.var 7) (.x (.var 8) (.i (.var 0) (.i (.var 1) (.i (.var 2) (.i (.var 3) (.i (.var 4) (.x (.var 5) (.i (.var 6) (.i (.var 7) (.x (.var 8) .nil))))))))))))))))))) (.cmp .eql (.fn 119 (.i (.var 0) (.i (.var 1) (.i (.var 2) (.i (.var 3) (.i (.var 4) (.x (.var 5) (.i (.var 6) (.i (.var 7) (.x (.var 8) (.i (.var 0) (.i (.var 1) (.i (.var 2) (.i (.var 3) (.i (.var 4) (.x (.var 5) (.i (.var 6) (.i (.var 7) (.x (.var 8) .nil))))))))))))))))))) (.lit 0))))))), [], 4))
        (.ite (.cmp .neq (.fn 78 (.i (.var 0) (.i (.var 1) (.i (.var 2) (.i (.var 3) (.i (.var 4) (.x (.var 5) (.i (.var 6) (.i (.var 7) (.x (.var 8) (.i (.var 27) (.i (.var 28) .nil)))))))))))) (.lit 0))
          (.ret ((.v (.one (.z (.bool (.eqb (.fn 128 (.i (.var 0) (.i (.var 1) (.i (.var 2) (.i (.var 3) (.i (.var 4) (.x (.var 5) (.i (.var 6) (.i (.var 7) (.x (.var 8) (.i (.var 0) (.i (.var 1) (.i (.var 2) (.i (.var 3) (.i (.var 4) (.x (.var 5) (.i (.var 6) (.i (.var 7) (.x (.var 8) .nil))))))))))))))))))) (.cmp .eql (.fn 119 (.i (.var 0) (.i (.var 1) (.i (.var 2) (.i (.var 3) (.i (.var 4) (.x (.var 5) (.i (.var 6) (.i (.var 7) (.x (.var 8) (.i (.var 0) (.i (.var 1) (.i (.var 2) (.i (.var 3) (.i (.var 4) (.x (.var 5) (.i (.var 6) (.i (.var 7) (.x (.var 8) .nil))))))))))))))))))) (.lit 0))))))), [], 4))
          (.ite (.not (.fn 128 (.i (.var 0) (.i (.var 1) (.i (.var 2) (.i (.var 3) (.i (.var 4) (.x (.var 5) (.i (.var 6) (.i (.var 7) (.x (.var 8) (.i (.var 9) (.i (.var 10) (.i (.var 11) (.i (.var 12) (.i (.var 13) (.x (.var 14) (.i (.var 15) (.i (.var 16) (.x (.var 17) .nil))))))))))))))))))))
            (.ret ((.v (.one (.z (.bool (.eqb (.fn 128 (.i (.var 0) (.i (.var 1) (.i (.var 2) (.i (.var 3) (.i (.var 4) (.x (.var 5) (.i (.var 6) (.i (.var 7) (.x (.var 8) (.i (.var 0) (.i (.var 1) (.i (.var 2) (.i (.var 3) (.i (.var 4) (.x (.var 5) (.i (.var 6) (.i (.var 7) (.x (.var 8) .nil))))))))))))))))))) (.cmp .eql (.fn 119 (.i (.var 0) (.i (.var 1) (.i (.var 2) (.i (.var 3) (.i (.var 4) (.x (.var 5) (.i (.var 6) (.i (.var 7) (.x (.var 8) (.i (.var 0) (.i (.var 1) (.i (.var 2) (.i (.var 3) (.i (.var 4) (.x (.var 5) (.i (.var 6) (.i (.var 7) (.x (.var 8) .nil))))))))))))))))))) (.lit 0))))))), [], 4))
            (.ite (.not (.fn 78 (.i (.var 0) (.i (.var 1) (.i (.var 2) (.i (.var 3) (.i (.var 4) (.x (.var 5) (.i (.var 6) (.i (.var 7) (.x (.var 8) (.i (.var 27) (.i (.var 28) .nil)))))))))))))
              (.ret ((.v (.one (.z (.bool (.eqb (.fn 128 (.i (.var 0) (.i (.var 1) (.i (.var 2) (.i (.var 3) (.i (.var 4) (.x (.var 5) (.i (.var 6) (.i (.var 7) (.x (.var 8) (.i (.var 0) (.i (.var 1) (.i (.var 2) (.i (.var 3) (.i (.var 4) (.x (.var 5) (.i (.var 6) (.i (.var 7) (.x (.var 8) .nil))))))))))))))))))) (.cmp .eql (.fn 119 (.i (.var 0) (.i (.var 1) (.i (.var 2) (.i (.var 3) (.i (.var 4) (.x (.var 5) (.i (.var 6) (.i (.var 7) (.x (.var 8) (.i (.var 0) (.i (.var 1) (.i (.var 2) (.i (.var 3) (.i (.var 4) (.x (.var 5) (.i (.var 6) (.i (.var 7) (.x (.var 8) .nil))))))))))))))))))) (.lit 0))))))), [], 4))
              (.ite (.eqb (.fn 128 (.i (.var 0) (.i (.var 1) (.i (.var 2) (.i (.var 3) (.i (.var 4) (.x (.var 5) (.i (.var 6) (.i (.var 7) (.x (.var 8) (.i (.var 0) (.i (.var 1) (.i (.var 2) (.i (.var 3) (.i (.var 4) (.x (.var 5) (.i (.var 6) (.i (.var 7) (.x (.var 8) .nil))))))))))))))))))) (.cmp .eql (.fn 119 (.i (.var 0) (.i (.var 1) (.i (.var 2) (.i (.var 3) (.i (.var 4) (.x (.var 5) (.i (.var 6) (.i (.var 7) (.x (.var 8) (.i (.var 0) (.i (.var 1) (.i (.var 2) (.i (.var 3) (.i (.var 4) (.x (.var 5) (.i (.var 6) (.i (.var 7) (.x (.var 8) .nil))))))))))))))))))) (.lit 0)))
                (.ite (.cmp .eql (.fn 78 (.i (.var 9) (.i (.var 10) (.i (.var 11) (.i (.var 12) (.i (.var 13) (.x (.var 14) (.i (.var 15) (.i (.var 16) (.x (.var 17) (.i (.var 27) (.i (.var 28) .nil)))))))))))) (.lit 0))
                  (.ite (.fn 78 (.i (.var 9) (.i (.var 10) (.i (.var 11) (.i (.var 12) (.i (.var 13) (.x (.var 14) (.i (.var 15) (.i (.var 16) (.x (.var 17) (.i (.var 27) (.i (.var 28) .nil))))))))))))
                    (.ret ((.v (.one (.z (.bool (.cmp .leq (.var 15) (.var 6)))))), [], 4))
                    (.ret ((.v (.one (.z (.bool (.lit false))))), [], 4)))
                  (.ret ((.v (.one (.z (.bool (.lit false))))), [], 4)))
                (.ret ((.v (.one (.z (.bool (.lit false))))), [], 4))))))))
    (.ite (.cmp .neq (.fn 119 (.i (.var 0) (.i (.var 1) (.i (.var 2) (.i (.var 3) (.i (.var 4) (.x (.var 5) (.i (.var 6) (.i (.var 7) (.x (.var 8) (.i (.var 9) (.i (.var 10) (.i (.var 11) (.i (.var 12) (.i (.var 13) (.x (.var 14) (.i (.var 15) (.i (.var 16) (.x (.var 17) .nil))))))))))))))))))) (.lit 0))
      (.ret ((.v (.one (.z (.bool (.eqb (.fn 128 (.i (.var 0) (.i (.var 1) (.i (.var 2) (.i (.var 3) (.i (.var 4) (.x (.var 5) (.i (.var 6) (.i (.var 7) (.x (.var 8) (.i (.var 0) (.i (.var 1) (.i (.var 2) (.i (.var 3) (.i (.var 4) (.x (.var 5) (.i (.var 6) (.i (.var 7) (.x (.var 8) .nil))))))))))))))))))) (.cmp .eql (.fn 119 (.i (.var 0) (.i (.var 1) (.i (.var 2) (.i (.var 3) (.i (.var 4) (.x (.var 5) (.i (.var 6) (.i (.var 7) (.x (.var 8) (.i (.var 0) (.i (.var 1) (.i (.var 2) (.i (.var 3) (.i (.var 4) (.x (.var 5) (.i (.var 6) (.i (.var 7) (.x (.var 8) .nil))))))))))))))))))) (.lit 0))))))), [], 4))
      (.ite (.cmp .neq (.fn 78 (.i (.var 0) (.i (.var 1) (.i (.var 2) (.i (.var 3) (.i (.var 4) (.x (.var 5) (.i (.var 6) (.i (.var 7) (.x (.var 8) (.i (.var 27) (.i (.var 28) .nil)))))))))))) (.lit 0))
        (.ret ((.v (.one (.z (.bool (.eqb (.fn 128 (.i (.var 0) (.i (.var 1) (.i (.var 2) (.i (.var 3) (.i (.var 4) (.x (.var 5) (.i (.var 6) (.i (.var 7) (.x (.var 8) (.i (.var 0) (.i (.var 1) (.i (.var 2) (.i (.var 3) (.i (.var 4) (.x (.var 5) (.i (.var 6) (.i (.var 7) (.x (.var 8) .nil))))))))))))))))))) (.cmp .eql (.fn 119 (.i (.var 0) (.i (.var 1) (.i (.var 2) (.i (.var 3) (.i (.var 4) (.x (.var 5) (.i (.var 6) (.i (.var 7) (.x (.var 8) (.i (.var 0) (.i (.var 1) (.i (.var 2) (.i (.var 3) (.i (.var 4) (.x (.var 5) (.i (.var 6) (.i (.var 7) (.x (.var 8) .nil))))))))))))))))))) (.lit 0))))))), [], 4))
        (.ite (.not (.fn 128 (.i (.var 0) (.i (.var 1) (.i (.var 2) (.i (.var 3) (.i (.var 4) (.x (.var 5) (.i (.var 6) (.i (.var 7) (.x (.var 8) (.i (.var 9) (.i (.var 10) (.i (.var 11) (.i (.var 12) (.i (.var 13) (.x (.var 14) (.i (.var 15) (.i (.var 16) (.x (.var 17) .nil))))))))))))))))))))
          (.ret ((.v (.one (.z (.bool (.eqb (.fn 128 (.i (.var 0) (.i (.var 1) (.i (.var 2) (.i (.var 3) (.i (.var 4) (.x (.var 5) (.i (.var 6) (.i (.var 7) (.x (.var 8) (.i (.var 0) (.i (.var 1) (.i (.var 2) (.i (.var 3) (.i (.var 4) (.x (.var 5) (.i (.var 6) (.i (.var 7) (.x (.var 8) .nil))))))))))))))))))) (.cmp .eql (.fn 119 (.i (.var 0) (.i (.var 1) (.i (.var 2) (.i (.var 3) (.i (.var 4) (.x (.var 5) (.i (.var 6) (.i (.var 7) (.x (.var 8) (.i (.var 0) (.i (.var 1) (.i (.var 2) (.i (.var 3) (.i (.var 4) (.x (.var 5) (.i (.var 6) (.i (.var 7) (.x (.var 8) .nil))))))))))))))))))) (.lit 0))))))), [], 4))
          (.ite (.not (.fn 78 (.i (.var 0) (.i (.var 1) (.i (.var 2) (.i (.var 3) (.i (.var 4) (.x (.var 5) (.i (.var 6) (.i (.var 7) (.x (.var 8) (.i (.var 27) (.i (.var 28) .nil)))))))))))))
            (.ret ((.v (.one (.z (.bool (.eqb (.fn 128 (.i (.var 0) (.i (.var 1) (.i (.var 2) (.i (.var 3) (.i (.var 4) (.x (.var 5) (.i (.var 6) (.i (.var 7) (.x (.var 8) (.i (.var 0) (.i (.var 1) (.i (.var 2) (.i (.var 3) (.i (.var 4) (.x (.var 5) (.i (.var 6) (.i (.var 7) (.x (.var 8) .nil))))))))))))))))))) (.cmp .eql (.fn 119 (.i (.var 0) (.i (.var 1) (.i (.var 2) (.i (.var 3) (.i (.var 4) (.x (.var 5) (.i (.var 6) (.i (.var 7) (.x (.var 8) (.i (.var 0) (.i (.var 1) (.i (.var 2) (.i (.var 3) (.i (.var 4) (.x (.var 5) (.i (.var 6) (.i (.var 7) (.x (.var 8) .nil))))))))))))))))))) (.lit 0))))))), [], 4))
            (.ite (.eqb (.fn 128 (.i (.var 0) (.i (.var 1) (.i (.var 2) (.i (.var 3) (.i (.var 4) (.x (.var 5) (.i (.var 6) (.i (.var 7) (.x (.var 8) (.i (.var 0) (.i (.var 1) (.i (.var 2) (.i (.var 3) (.i (.var 4) (.x (.var 5) (.i (.var 6) (.i (.var 7) (.x (.var 8) .nil))))))))))))))))))) (.cmp .eql (.fn 119 (.i (.var 0) (.i (.var 1) (.i (.var 2) (.i (.var 3) (.i (.var 4) (.x (.var 5) (.i (.var 6) (.i (.var 7) (.x (.var 8) (.i (.var 0) (.i (.var 1) (.i (.var 2) (.i (.var 3) (.i (.var 4) (.x (.var 5) (.i (.var 6) (.i (.var 7) (.x (.var 8) .nil))))))))))))))))))) (.lit 0)))
              (.ite (.cmp .eql (.fn 78 (.i (.var 9) (.i (.var 10) (.i (.var 11) (.i (.var 12) (.i (.var 13) (.x (.var 14) (.i (.var 15) (.i (.var 16) (.x (.var 17) (.i (.var 27) (.i (.var 28) .nil)))))))))))) (.lit 0))
                (.ite (.fn 78 (.i (.var 9) (.i (.var 10) (.i (.var 11) (.i (.var 12) (.i (.var 13) (.x (.var 14) (.i (.var 15) (.i (.var 16) (.x (.var 17) (.i (.var 27) (.i (.var 28) .nil))))))))))))
                  (.ret ((.v (.one (.z (.bool (.cmp .leq (.var 15) (.var 6)))))), [], 4))
                  (.ret ((.v (.one (.z (.bool (.lit false))))), [], 4)))
                (.ret ((.v (.one (.z (.bool (.lit false))))), [], 4)))
              (.ret ((.v (.one (.z (.bool (.lit false))))), [], 4))))))))
  (.ite (.cmp .eql (.fn 119 (.i (.var 0) (.i (.var 1) (.i (.var 2) (.i (.var 3) (.i (.var 4) (.x (.var 5) (.i (.var 6) (.i (.var 7) (.x (.var 8) (.i (.var 9) (.i (.var 10) (.i (.var 11) (.i (.var 12) (.i (.var 13) (.x (.var 14) (.i (.var 15) (.i (.var 16) (.x (.var 17) .nil))))))))))))))))))) (.lit 0))
    (.ite (.cmp .eql (.fn 119 (.i (.var 9) (.i (.var 10) (.i (.var 11) (.i (.var 12) (.i (.var 13) (.x (.var 14) (.i (.var 15) (.i (.var 16) (.x (.var 17) (.i (.var 18) (.i (.var 19) (.i (.var 20) (.i (.var 21) (.i (.var 22) (.x (.var 23) (.i (.var 24) (.i (.var 25) (.x (.var 26) .nil))))))))))))))))))) (.lit 0))
      (.ite (.cmp .neq (.fn 119 (.i (.var 0) (.i (.var 1) (.i (.var 2) (.i (.var 3) (.i (.var 4) (.x (.var 5) (.i (.var 6) (.i (.var 7) (.x (.var 8) (.i (.var 9) (.i (.var 10) (.i (.var 11) (.i (.var 12) (.i (.var 13) (.x (.var 14) (.i (.var 15) (.i (.var 16) (.x (.var 17) .nil))))))))))))))))))) (.lit 0))
        (.ret ((.v (.one (.z (.bool (.lit false))))), [], 4))
        (.ite (.cmp .neq (.fn 78 (.i (.var 0) (.i (.var 1) (.i (.var 2) (.i (.var 3) (.i (.var 4) (.x (.var 5) (.i (.var 6) (.i (.var 7) (.x (.var 8) (.i (.var 27) (.i (.var 28) .nil)))))))))))) (.lit 0))
          (.ret ((.v (.one (.z (.bool (.lit false))))), [], 4))
          (.ite (.not (.fn 128 (.i (.var 0) (.i (.var 1) (.i (.var 2) (.i (.var 3) (.i (.var 4) (.x (.var 5) (.i (.var 6) (.i (.var 7) (.x (.var 8) (.i (.var 9) (.i (.var 10) (.i (.var 11) (.i (.var 12) (.i (.var 13) (.x (.var 14) (.i (.var 15) (.i (.var 16) (.x (.var 17) .nil))))))))))))))))))))
            (.ret ((.v (.one (.z (.bool (.lit false))))), [], 4))
            (.ite (.not (.fn 78 (.i (.var 0) (.i (.var 1) (.i (.var 2) (.i (.var 3) (.i (.var 4) (.x (.var 5) (.i (.var 6) (.i (.var 7) (.x (.var 8) (.i (.var 27) (.i (.var 28) .nil)))))))))))))
              (.ret ((.v (.one (.z (.bool (.lit false))))), [], 4))
              (.ret ((.v (.one (.z (.bool (.lit false))))), [], 4))))))
      (.ite (.cmp .neq (.fn 119 (.i (.var 0) (.i (.var 1) (.i (.var 2) (.i (.var 3) (.i (.var 4) (.x (.var 5) (.i (.var 6) (.i (.var 7) (.x (.var 8) (.i (.var 9) (.i (.var 10) (.i (.var 11) (.i (.var 12) (.i (.var 13) (.x (.var 14) (.i (.var 15) (.i (.var 16) (.x (.var 17) .nil))))))))))))))))))) (.lit 0))
        (.ret ((.v (.one (.z (.bool (.lit false))))), [], 4))
        (.ite (.cmp .neq (.fn 78 (.i (.var 0) (.i (.var 1) (.i (.var 2) (.i (.var 3) (.i (.var 4) (.x (.var 5) (.i (.var 6) (.i (.var 7) (.x (.var 8) (.i (.var 27) (.i (.var 28) .nil)))))))))))) (.lit 0))
          (.ret ((.v (.one (.z (.bool (.lit false))))), [], 4))
          (.ite (.not (.fn 128 (.i (.var 0) (.i (.var 1) (.i (.var 2) (.i (.var 3) (.i (.var 4) (.x (.var 5) (.i (.var 6) (.i (.var 7) (.x (.var 8) (.i (.var 9) (.i (.var 10) (.i (.var 11) (.i (.var 12) (.i (.var 13) (.x (.var 14) (.i (.var 15) (.i (.var 16) (.x (.var 17) .nil))))))))))))))))))))
            (.ret ((.v (.one (.z (.bool (.lit false))))), [], 4))
            (.ite (.not (.fn 78 (.i (.var 0) (.i (.var 1) (.i (.var 2) (.i (.var 3) (.i (.var 4) (.x (.var 5) (.i (.var 6) (.i (.var 7) (.x (.var 8) (.i (.var 27) (.i (.var 28) .nil)))))))))))))
              (.ret ((.v (.one (.z (.bool (.lit false))))), [], 4))
              (.ret ((.v (.one (.z (.bool (.lit false))))), [], 4)))))))
    (.ite (.cmp .neq (.fn 119 (.i (.var 0) (.i (.var 1) (.i (.var 2) (.i (.var 3) (.i (.var 4) (.x (.var 5) (.i (.var 6) (.i (.var 7) (.x (.var 8) (.i (.var 9) (.i (.var 10) (.i (.var 11) (.i (.var 12) (.i (.var 13) (.x (.var 14) (.i (.var 15) (.i (.var 16) (.x (.var 17) .nil))))))))))))))))))) (.lit 0))
      (.ret ((.v (.one (.z (.bool (.lit false))))), [], 4))
      (.ite (.cmp .neq (.fn 78 (.i (.var 0) (.i (.var 1) (.i (.var 2) (.i (.var 3) (.i (.var 4) (.x (.var 5) (.i (.var 6) (.i (.var 7) (.x (.var 8) (.i (.var 27) (.i (.var 28) .nil)))))))))))) (.lit 0))
        (.ret ((.v (.one (.z (.bool (.lit false))))), [], 4))
        (.ite (.not (.fn 128 (.i (.var 0) (.i (.var 1) (.i (.var 2) (.i (.var 3) (.i (.var 4) (.x (.var 5) (.i (.var 6) (.i (.var 7) (.x (.var 8) (.i (.var 9) (.i (.var 10) (.i (.var 11) (.i (.var 12) (.i (.var 13) (.x (.var 14) (.i (.var 15) (.i (.var 16) (.x (.var 17) .nil))))))))))))))))))))
          (.ret ((.v (.one (.z (.bool (.lit false))))), [], 4))
          (.ite (.not (.fn 78 (.i (.var 0) (.i (.var 1) (.i (.var 2) (.i (.var 3) (.i (.var 4) (.x (.var 5) (.i (.var 6) (.i (.var 7) (.x (.var 8) (.i (.var 27) (.i (.var 28) .nil)))))))))))))
            (.ret ((.v (.one (.z (.bool (.lit false))))), [], 4))
            (.ret ((.v (.one (.z (.bool (.lit false))))), [], 4))))))))
-- end trStands7
set_option maxRecDepth 100000 in
theorem trStands7_is : T.norm 0 (call Try.prog ctE11 (Lt.of []) 100 5 (symArgs 0 [feat, feat, feat, pt]) [] 0) TT.ret = trStands7 := by kernel_rfl
theorem trStands7_low : trStands7.low 1000 = true := by kernel_rfl
end Go.Proofs.Ytglepdhapakmbaa
/- Chapter 07: a feature holds and stands for itself; equal features. -/
namespace Go.Proofs.Ytglepdhapakmbaa
open Go.RowKit
/-! ### Rows of numbers -/
def intsR (c : Nat) (row : List D) : Prop := row.length = c ∧ ∀ d ∈ row, ∃ n, d = .i n
def wfI (c : Nat) (r : Rows) : Prop := ∀ (i : Nat) row, r[i]? = some row → intsR c row
def isInt : CK → Bool | .int _ => true | _ => false
theorem reps_ints {w : World} : ∀ {ks : List CK} {vs : List Value} {ds : List D}, ks.all isInt = true → CK.reps w ks vs ds → intsR ks.length ds
  | [], vs, ds, _, h => by
    unfold CK.reps at h
    obtain ⟨rfl, rfl⟩ := h
    exact ⟨rfl, fun d hd => by cases hd⟩
  | k :: ks, vs, ds, hk, h => by
    unfold CK.reps at h
    obtain ⟨v, vs', d, ds', rfl, rfl, h1, h2⟩ := h
    simp only [List.all_cons, Bool.and_eq_true] at hk
    obtain ⟨g1, g2⟩ := reps_ints hk.2 h2
    refine ⟨by simp [g1], fun e he => ?_⟩
    rcases List.mem_cons.mp he with q | q
    · subst q
      cases k with
      | int k =>
        unfold CK.rep at h1
        obtain ⟨n, _, rfl⟩ := h1
        exact ⟨n, rfl⟩
      | bool => exact absurd hk.1 (by decide)
      | sl ks => exact absurd hk.1 (by simp [isInt])
    · exact g2 e q
theorem rep_wf {w : World} {ks : List CK} {v : Value} {d : D} (hk : ks.all isInt = true) (h : CK.rep w (.sl ks) v d) : wfI ks.length d.rows := by
  rw [rep_sl] at h
  obtain ⟨r, rfl, a, n, c, _, hs, _⟩ := h
  intro i row hi
  have hi' : r[i]? = some row := hi
  have hlt : i < r.length := by
    rcases Nat.lt_or_ge i r.length with q | q
    · exact q
    · rw [List.getElem?_eq_none q] at hi'; cases hi'
  have := hs.there (by have := hs.len; omega)
  cases a with
  | none => cases this
  | some b =>
    obtain ⟨vs, h1, _⟩ := hs.cell b rfl i row hi'
    exact reps_ints hk h1
theorem rows_eq {c : Nat} {r s : Rows} (hr : wfI c r) (hs : wfI c s) (h : eqX c r s = true) : r = s := by
  obtain ⟨hl, he⟩ := eqX_iff.mp h
  refine List.ext_getElem? (fun i => ?_)
  rcases Nat.lt_or_ge i r.length with q | q
  · have er : r[i]? = some r[i] := List.getElem?_eq_getElem q
    have es : s[i]? = some (s[i]'(by omega)) := List.getElem?_eq_getElem (by omega)
    obtain ⟨l1, n1⟩ := hr i _ er
    obtain ⟨l2, n2⟩ := hs i _ es
    rw [er, es]
    congr 1
    refine List.ext_getElem (by omega) (fun j h1 h2 => ?_)
    have g := he i q j (by omega)
    unfold lg cellAt at g
    rw [Int.toNat_natCast, er, es] at g
    simp only [Option.getD_some] at g
    rw [List.getElem?_eq_getElem h1, List.getElem?_eq_getElem h2] at g
    simp only [Option.getD_some] at g
    obtain ⟨u, eu⟩ := n1 _ (List.getElem_mem h1)
    obtain ⟨v, ev⟩ := n2 _ (List.getElem_mem h2)
    rw [eu, ev] at g ⊢
    have g' : u = v := g
    rw [g']
  · rw [List.getElem?_eq_none q, List.getElem?_eq_none (by omega)]
theorem eqX_self (c : Nat) (r : Rows) : eqX c r r = true := eqX_iff.mpr ⟨rfl, fun _ _ _ _ => rfl⟩
theorem eqX_symm {c : Nat} {r s : Rows} : eqX c r s = eqX c s r := by
  rw [Bool.eq_iff_iff, eqX_iff, eqX_iff]
  exact ⟨fun h => ⟨h.1.symm, fun k hk j hj => (h.2 k (by omega) j hj).symm⟩, fun h => ⟨h.1.symm, fun k hk j hj => (h.2 k (by omega) j hj).symm⟩⟩
/-! ### A polygon holds itself -/
theorem leN_true {r : Rows} {x y tx ty : Int} {k : Nat} (hk : x = lg r k 0 ∧ y = lg r k 1) (hop : opB r k tx ty = true) : ∀ (f i : Nat), i ≤ k → k < i + f → (∀ l, i ≤ l → l < k → ¬ (x = lg r l 0 ∧ y = lg r l 1)) → leN r x y tx ty f i = true
  | 0, i, h1, h2, _ => by omega
  | f + 1, i, h1, h2, hl => by
    rw [leN]
    by_cases e : k = i
    · subst e; rw [if_pos hk, hop]
    · rw [if_neg (hl i (by omega) (by omega))]
      exact leN_true hk hop f (i + 1) (by omega) (by omega) (fun l g1 g2 => hl l (by omega) g2)
theorem phN_true {r : Rows} {ax ay bx b : Int} : ∀ (f i : Nat), (∀ k, i ≤ k → k < i + f → phI r ax ay bx b k = true) → phN r ax ay bx b f i = true
  | 0, i, _ => rfl
  | f + 1, i, h => by rw [phN, h i (by omega) (by omega), phN_true f (i + 1) (fun k g1 g2 => h k (by omega) (by omega))]; rfl
theorem hoN_true {p q : Rows} : ∀ (f i : Nat), (∀ k, i ≤ k → k < i + f → phB p (lg q k 0) (lg q k 1) (lg q (nxt q.length k) 0) (lg q (nxt q.length k) 1) = true) → hoN p q f i = true
  | 0, i, _ => rfl
  | f + 1, i, h => by rw [hoN, h i (by omega) (by omega), hoN_true f (i + 1) (fun k g1 g2 => h k (by omega) (by omega))]; rfl
theorem corner_place {r : Rows} (hr : polyB r = true) {i : Nat} (hi : i < r.length) : 0 ≤ placeN r (lg r i 0) (lg r i 1) r.length 0 false := by
  have := (place_in hr (polyB_pl hr hi)).mpr (.inl ⟨i, hi, on_self ..⟩)
  exact this
theorem lead_corner {r : Rows} (hr : polyB r = true) {j : Nat} (hj : j < r.length) {tx ty : Int} (ht : placeB tx ty = true) (ho : OpI (cx r) (cy r) r.length (prv r.length j) j tx ty) : leN r (lg r j 0) (lg r j 1) tx ty r.length 0 = true :=
  leN_true ⟨rfl, rfl⟩ ((op_iff hr hj ht).mpr ho) _ 0 (by omega) (by omega) (fun l _ g2 h => by
    have := corner_inj (poly_simple hr) (i := l) (j := j) (by omega) hj ⟨h.1.symm, h.2.symm⟩
    omega)
theorem self_edge {r : Rows} (hr : polyB r = true) {i : Nat} (hi : i < r.length) : phB r (lg r i 0) (lg r i 1) (lg r (nxt r.length i) 0) (lg r (nxt r.length i) 1) = true := by
  have hs := poly_simple hr
  have hi' := nxt_lt hi
  have hb := hs.bend (prv r.length i) (prv_lt hi)
  rw [nxt_prv hi] at hb
  have hb' := hs.bend i hi
  have o1 : OpI (cx r) (cy r) r.length (prv r.length i) i (cx r (nxt r.length i)) (cy r (nxt r.length i)) := by
    have z : crossI (cx r i) (cy r i) (cx r (nxt r.length i)) (cy r (nxt r.length i)) (cx r (nxt r.length i)) (cy r (nxt r.length i)) = 0 := by unfold crossI; grind
    unfold OpI
    rw [z]
    split
    · omega
    · omega
  have o2 : OpI (cx r) (cy r) r.length (prv r.length (nxt r.length i)) (nxt r.length i) (cx r i) (cy r i) := by
    rw [prv_nxt hi]
    have z : crossI (cx r i) (cy r i) (cx r (nxt r.length i)) (cy r (nxt r.length i)) (cx r i) (cy r i) = 0 := by unfold crossI; grind
    have c := (cross_cyc (cx r i) (cy r i) (cx r (nxt r.length i)) (cy r (nxt r.length i)) (cx r (nxt r.length (nxt r.length i))) (cy r (nxt r.length (nxt r.length i)))).1
    unfold OpI
    rw [z, c]
    split
    · omega
    · omega
  have q1 : leN r (lg r i 0) (lg r i 1) (lg r (nxt r.length i) 0) (lg r (nxt r.length i) 1) r.length 0 = true := lead_corner hr hi (polyB_pl hr hi') o1
  have q2 : leN r (lg r (nxt r.length i) 0) (lg r (nxt r.length i) 1) (lg r i 0) (lg r i 1) r.length 0 = true := lead_corner hr hi' (polyB_pl hr hi) o2
  unfold phB
  rw [decide_eq_true (corner_place hr hi), decide_eq_true (corner_place hr hi'), q1, q2, phN_true _ 0 (fun k _ hk => ?_)]
  · rfl
  have hk : k < r.length := by omega
  have hk' := nxt_lt hk
  have h1 := polyB_pl hr hi
  have h2 := polyB_pl hr hi'
  have h3 := polyB_pl hr hk
  have h4 := polyB_pl hr hk'
  have t1 : tur (lg r i 0) (lg r i 1) (lg r (nxt r.length i) 0) (lg r (nxt r.length i) 1) (lg r k 0) (lg r k 1) = sgn (crossI (cx r i) (cy r i) (cx r (nxt r.length i)) (cy r (nxt r.length i)) (cx r k) (cy r k)) := turnR_eq h1 h2 h3
  have t2 : tur (lg r i 0) (lg r i 1) (lg r (nxt r.length i) 0) (lg r (nxt r.length i) 1) (lg r (nxt r.length k) 0) (lg r (nxt r.length k) 1) = sgn (crossI (cx r i) (cy r i) (cx r (nxt r.length i)) (cy r (nxt r.length i)) (cx r (nxt r.length k)) (cy r (nxt r.length k))) := turnR_eq h1 h2 h4
  have t3 : tur (lg r k 0) (lg r k 1) (lg r (nxt r.length k) 0) (lg r (nxt r.length k) 1) (lg r i 0) (lg r i 1) = sgn (crossI (cx r k) (cy r k) (cx r (nxt r.length k)) (cy r (nxt r.length k)) (cx r i) (cy r i)) := turnR_eq h3 h4 h1
  have t4 : tur (lg r k 0) (lg r k 1) (lg r (nxt r.length k) 0) (lg r (nxt r.length k) 1) (lg r (nxt r.length i) 0) (lg r (nxt r.length i) 1) = sgn (crossI (cx r k) (cy r k) (cx r (nxt r.length k)) (cy r (nxt r.length k)) (cx r (nxt r.length i)) (cy r (nxt r.length i))) := turnR_eq h3 h4 h2
  have hpc : phC r (lg r i 0) (lg r i 1) (lg r (nxt r.length i) 0) (lg r (nxt r.length i) 1) k = false := by
    rw [phC, decide_eq_false_iff_not, t1, t2, t3, t4, sgn_mul, sgn_mul]
    by_cases e1 : k = i
    · subst e1
      have z : crossI (cx r k) (cy r k) (cx r (nxt r.length k)) (cy r (nxt r.length k)) (cx r k) (cy r k) = 0 := by unfold crossI; grind
      omega
    · by_cases e2 : k = nxt r.length i
      · subst e2
        have z : crossI (cx r i) (cy r i) (cx r (nxt r.length i)) (cy r (nxt r.length i)) (cx r (nxt r.length i)) (cy r (nxt r.length i)) = 0 := by unfold crossI; grind
        omega
      · by_cases e3 : i = nxt r.length k
        · subst e3
          have z : crossI (cx r (nxt r.length k)) (cy r (nxt r.length k)) (cx r (nxt r.length (nxt r.length k))) (cy r (nxt r.length (nxt r.length k))) (cx r (nxt r.length k)) (cy r (nxt r.length k)) = 0 := by unfold crossI; grind
          omega
        · exact no_proper (hs.apart i k hi hk e1 e2 e3)
  have hon : onR [.i (lg r k 0), .i (lg r k 1), .i (lg r i 0), .i (lg r i 1), .i (lg r (nxt r.length i) 0), .i (lg r (nxt r.length i) 1)] = onB (cx r k) (cy r k) (cx r i) (cy r i) (cx r (nxt r.length i)) (cy r (nxt r.length i)) := onR_eq h3 h1 h2
  rw [phI, hpc, hon]
  by_cases e1 : k = i
  · subst e1; simp
  · by_cases e2 : k = nxt r.length i
    · subst e2; simp
    · rw [(no_on (corner_off hs hk hi (fun h => e1 h.symm) (fun h => e2 h.symm))).1]
      simp
theorem ho_self {r : Rows} (hr : polyB r = true) : hoX r r = true := hoN_true _ 0 (fun k _ hk => self_edge hr (by omega))

section
variable {i1 k1 x1 y1 r1 d1 s1 : Int} {a1 t1 : Rows}
theorem hold_self (h : featB i1 k1 x1 y1 r1 a1 d1 s1 t1 = true) : holdX k1 x1 y1 r1 a1 k1 x1 y1 r1 a1 = true := by
  unfold holdX
  by_cases n1 : k1 = 4
  · rw [if_pos n1, decide_eq_true n1]
  rw [if_neg n1]
  by_cases e1 : k1 = 3 ∨ k1 = 6
  · rw [if_pos e1, if_neg n1, if_pos e1, ho_self (feat_area h e1)]
  · rw [if_neg e1, if_neg n1, if_neg e1, liesB, decide_eq_true_eq]
    unfold dist2
    rw [Int.sub_self, Int.sub_self, Int.sub_self]
    omega
theorem wrD_self (t : Rows) (x y : Int) : wrD t t x y = false := by
  unfold wrD
  by_cases h : shC t x y = 1
  · rw [decide_eq_true h, decide_eq_false (fun g => g h), decide_eq_false (Int.lt_irrefl _)]; rfl
  · rw [decide_eq_false h]; rfl
theorem sfN_self (t l : Rows) : ∀ f i, sfN t t l f i = false
  | 0, _ => rfl
  | f + 1, i => by rw [sfN, wrD_self, wrD_self, sfN_self t l f (i + 1)]; rfl
theorem stand_self (h : featB i1 k1 x1 y1 r1 a1 d1 s1 t1 = true) : standX k1 x1 y1 r1 a1 d1 t1 k1 x1 y1 r1 a1 d1 t1 = true := by
  unfold standX
  by_cases n1 : k1 = 4
  · rw [if_neg (by omega), decide_eq_true ⟨n1, rfl, rfl⟩]
    unfold saferX
    rw [sfN_self]; rfl
  · rw [if_pos n1, decide_eq_true (Int.le_refl _), hold_self h]; rfl
end

theorem feat_wf {W : World} {vals : List Value} {ds : List D} {sh : List Sh} (hr : repSh W (feat :: feat :: feat :: sh) vals ds) : ((wfI 2 (rAt ds 5) ∧ wfI 6 (rAt ds 8)) ∧ wfI 2 (rAt ds 14) ∧ wfI 6 (rAt ds 17)) ∧ wfI 2 (rAt ds 23) ∧ wfI 6 (rAt ds 26) := by
  obtain ⟨v1, vs1, d1, ds1, rfl, rfl, ⟨u1, _, h1⟩, v2, vs2, d2, ds2, rfl, rfl, ⟨u2, _, h2⟩, v3, vs3, d3, ds3, rfl, rfl, ⟨u3, _, h3⟩, _⟩ := hr
  have e1 : d1.length = 9 := reps_len7 h1
  have e2 : d2.length = 9 := reps_len7 h2
  have e3 : d3.length = 9 := reps_len7 h3
  obtain ⟨_, x5, _, p5, q5⟩ := reps_get (j := 5) h1 rfl
  obtain ⟨_, x8, _, p8, q8⟩ := reps_get (j := 8) h1 rfl
  obtain ⟨_, y5, _, r5, t5⟩ := reps_get (j := 5) h2 rfl
  obtain ⟨_, y8, _, r8, t8⟩ := reps_get (j := 8) h2 rfl
  obtain ⟨_, z5, _, m5, n5⟩ := reps_get (j := 5) h3 rfl
  obtain ⟨_, z8, _, m8, n8⟩ := reps_get (j := 8) h3 rfl
  have gd : ∀ (l : List D) (i : Nat) (d : D), l[i]? = some d → l.getD i (.i 0) = d := fun l i d h => by rw [List.getD_eq_getElem?_getD, h]; rfl
  have a5 : (d1 ++ (d2 ++ (d3 ++ ds3)))[5]? = some x5 := by rw [List.getElem?_append_left (by omega)]; exact p5
  have a8 : (d1 ++ (d2 ++ (d3 ++ ds3)))[8]? = some x8 := by rw [List.getElem?_append_left (by omega)]; exact p8
  have a14 : (d1 ++ (d2 ++ (d3 ++ ds3)))[14]? = some y5 := by rw [List.getElem?_append_right (by omega), e1, List.getElem?_append_left (by omega)]; exact r5
  have a17 : (d1 ++ (d2 ++ (d3 ++ ds3)))[17]? = some y8 := by rw [List.getElem?_append_right (by omega), e1, List.getElem?_append_left (by omega)]; exact r8
  have a23 : (d1 ++ (d2 ++ (d3 ++ ds3)))[23]? = some z5 := by rw [List.getElem?_append_right (by omega), e1, List.getElem?_append_right (by omega), e2, List.getElem?_append_left (by omega)]; exact m5
  have a26 : (d1 ++ (d2 ++ (d3 ++ ds3)))[26]? = some z8 := by rw [List.getElem?_append_right (by omega), e1, List.getElem?_append_right (by omega), e2, List.getElem?_append_left (by omega)]; exact m8
  unfold rAt
  rw [gd _ _ _ a5, gd _ _ _ a8, gd _ _ _ a14, gd _ _ _ a17, gd _ _ _ a23, gd _ _ _ a26]
  exact ⟨⟨⟨rep_wf (by decide) q5, rep_wf (by decide) q8⟩, rep_wf (by decide) t5, rep_wf (by decide) t8⟩, rep_wf (by decide) n5, rep_wf (by decide) n8⟩

end Go.Proofs.Ytglepdhapakmbaa
/- Chapter 07: the law FeatureSame. -/
namespace Go.Proofs.Ytglepdhapakmbaa
open Go.RowKit
theorem feStR_18 (i1 k1 x1 y1 r1 : Int) (a1 : Rows) (d1 s1 : Int) (t1 : Rows) (i2 k2 x2 y2 r2 : Int) (a2 : Rows) (d2 s2 : Int) (t2 : Rows) : feStR [.i i1, .i k1, .i x1, .i y1, .i r1, .l a1, .i d1, .i s1, .l t1, .i i2, .i k2, .i x2, .i y2, .i r2, .l a2, .i d2, .i s2, .l t2] = ((featB i1 k1 x1 y1 r1 a1 d1 s1 t1 && featB i2 k2 x2 y2 r2 a2 d2 s2 t2) && standX k1 x1 y1 r1 a1 d1 t1 k2 x2 y2 r2 a2 d2 t2) := rfl
theorem sameL_18 (i1 k1 x1 y1 r1 : Int) (a1 : Rows) (d1 s1 : Int) (t1 : Rows) (i2 k2 x2 y2 r2 : Int) (a2 : Rows) (d2 s2 : Int) (t2 : Rows) : sameL [.i i1, .i k1, .i x1, .i y1, .i r1, .l a1, .i d1, .i s1, .l t1, .i i2, .i k2, .i x2, .i y2, .i r2, .l a2, .i d2, .i s2, .l t2] = sameB i1 k1 x1 y1 r1 a1 d1 s1 t1 i2 k2 x2 y2 r2 a2 d2 s2 t2 := rfl
theorem K79b76 (W : World) (ds l : List D) : (envOf K79 W ds).fb 76 l = featL l := by simp only [envOf, K79, K78, K77, K76, K75, K74, K73, K72, K71, KI, KH, KG, KF, KE, KD, KC, KB, KA, K9, K8, K7, K6, K5, K]
theorem K79b119 (W : World) (ds l : List D) : (envOf K79 W ds).fb 119 l = feHoR l := by simp only [envOf, K79, K78, K77, K76, K75, K74, K73, K72, K71, KI, KH, KG, KF, KE, KD, KC, KB, KA, K9, K8, K7, K6, K5, K]
theorem K79i119 (W : World) (ds l : List D) : (envOf K79 W ds).fi 119 l = feE l := by simp only [envOf, K79, K78, K77, K76, K75, K74, K73, K72, K71, KI, KH, KG, KF, KE, KD, KC, KB, KA, K9, K8, K7, K6, K5, K]
theorem K79b128 (W : World) (ds l : List D) : (envOf K79 W ds).fb 128 l = feStR l := by simp only [envOf, K79, K78, K77, K76, K75, K74, K73, K72, K71, KI, KH, KG, KF, KE, KD, KC, KB, KA, K9, K8, K7, K6, K5, K]
theorem K79b129 (W : World) (ds l : List D) : (envOf K79 W ds).fb 129 l = sameL l := by simp only [envOf, K79, K78, K77, K76, K75, K74, K73, K72, K71, KI, KH, KG, KF, KE, KD, KC, KB, KA, K9, K8, K7, K6, K5, K]
theorem K79b78 (W : World) (ds l : List D) : (envOf K79 W ds).fb 78 l = covR l := by simp only [envOf, K79, K78, K77, K76, K75, K74, K73, K72, K71, KI, KH, KG, KF, KE, KD, KC, KB, KA, K9, K8, K7, K6, K5, K]
theorem K79i78 (W : World) (ds l : List D) : (envOf K79 W ds).fi 78 l = covE l := by simp only [envOf, K79, K78, K77, K76, K75, K74, K73, K72, K71, KI, KH, KG, KF, KE, KD, KC, KB, KA, K9, K8, K7, K6, K5, K]
section
variable {i1 k1 x1 y1 r1 d1 s1 i2 k2 x2 y2 r2 d2 s2 : Int} {a1 t1 a2 t2 : Rows}
theorem same_eq (w1 : wfI 2 a1) (w2 : wfI 6 t1) (w3 : wfI 2 a2) (w4 : wfI 6 t2) (h : sameB i1 k1 x1 y1 r1 a1 d1 s1 t1 i2 k2 x2 y2 r2 a2 d2 s2 t2 = true) :
    (i2 = i1 ∧ k2 = k1 ∧ x2 = x1 ∧ y2 = y1) ∧ (r2 = r1 ∧ d2 = d1 ∧ s2 = s1) ∧ a2 = a1 ∧ t2 = t1 := by
  simp only [sameB, Bool.and_eq_true, decide_eq_true_eq] at h
  obtain ⟨⟨⟨e1, e2, e3, e4⟩, e5, e6, e7⟩, h1, h2⟩ := h
  exact ⟨⟨e1.symm, e2.symm, e3.symm, e4.symm⟩, ⟨e5.symm, e6.symm, e7.symm⟩, (rows_eq w1 w3 h1).symm, (rows_eq w2 w4 h2).symm⟩
theorem same_self : sameB i1 k1 x1 y1 r1 a1 d1 s1 t1 i1 k1 x1 y1 r1 a1 d1 s1 t1 = true := by
  simp only [sameB, eqX_self, Bool.and_self, Bool.and_true, decide_eq_true_eq, and_self]
theorem same_symm : sameB i1 k1 x1 y1 r1 a1 d1 s1 t1 i2 k2 x2 y2 r2 a2 d2 s2 t2 = sameB i2 k2 x2 y2 r2 a2 d2 s2 t2 i1 k1 x1 y1 r1 a1 d1 s1 t1 := by
  unfold sameB
  rw [eqX_symm (r := a1), eqX_symm (r := t1)]
  congr 1
  rw [decide_eq_decide]
  omega
theorem same_id {n : Int} : sameB i1 k1 x1 y1 r1 a1 d1 s1 t1 n k1 x1 y1 r1 a1 d1 s1 t1 = decide (i1 = n) := by
  unfold sameB
  rw [eqX_self, eqX_self, Bool.and_self, Bool.and_true, decide_eq_decide]
  simp
theorem same_depth {n : Int} : sameB i1 k1 x1 y1 r1 a1 d1 s1 t1 i1 k1 x1 y1 r1 a1 n s1 t1 = decide (d1 = n) := by
  unfold sameB
  rw [eqX_self, eqX_self, Bool.and_self, Bool.and_true, decide_eq_decide]
  simp
theorem same_symbol {n : Int} : sameB i1 k1 x1 y1 r1 a1 d1 s1 t1 i1 k1 x1 y1 r1 a1 d1 n t1 = decide (s1 = n) := by
  unfold sameB
  rw [eqX_self, eqX_self, Bool.and_self, Bool.and_true, decide_eq_decide]
  simp
end
set_option maxHeartbeats 8000000 in
set_option maxRecDepth 20000 in
theorem gSameLaw : Gives Try.prog 9 [feat, feat, feat, it] (fun _ => .bool true) := by
  refine GivesIf.all (fn_gives K79 (by kernel_rfl) (fun ρ h => ctE11_ok (Sees.of h 132)) (by kernel_rfl) trSame7_is trSame7_low (by decide) (fun W vals ds hr _ => ?_))
  obtain ⟨⟨⟨w1, w2⟩, w3, w4⟩, w5, w6⟩ := feat_wf hr
  simp only [trSame7, TT.sat_ret, TT.sat_ite, TT.sat_ob, TT.sat_next, TT.sat_stuck, put_i, put_b, put_d, put_fi, put_fb, put_fd, Ob.ok, B.ev, E.ev, X.ev, AL.ev, cmp_t, cmp_f, arEv, V.plain, V2.plain, S.plain, S0.plain, V.val, V2.val, S.val, S0.val, bV, iV, List.all_cons, List.all_nil, Bool.and_true, Bool.and_self, envOf_i, envOf_b, envOf_d, List.map_cons, List.map_nil, true_and, Bool.not_eq_true', Bool.not_eq_false', Bool.not_not, Bool.and_eq_true, and_f, cell_lg, cell_lb, cell_lr, cmpP, val_i, val_b, val_d, aget, Nat.reduceBEq, beq_self_eq_true, Bool.false_eq_true, if_true, if_false, Nat.reduceLT, Nat.reduceSub, Nat.sub_self, Nat.lt_irrefl, K79b76, K79b119, K79i119, K79b128, K79b129, feE_18, feHoR_18, feStR_18, sameL_18, feat_nine, same_self, same_id, same_depth, same_symbol]
  have S12 := same_eq w1 w2 w3 w4 (i1 := iAt ds 0) (k1 := iAt ds 1) (x1 := iAt ds 2) (y1 := iAt ds 3) (r1 := iAt ds 4) (d1 := iAt ds 6) (s1 := iAt ds 7) (i2 := iAt ds 9) (k2 := iAt ds 10) (x2 := iAt ds 11) (y2 := iAt ds 12) (r2 := iAt ds 13) (d2 := iAt ds 15) (s2 := iAt ds 16)
  have S23 := same_eq w3 w4 w5 w6 (i1 := iAt ds 9) (k1 := iAt ds 10) (x1 := iAt ds 11) (y1 := iAt ds 12) (r1 := iAt ds 13) (d1 := iAt ds 15) (s1 := iAt ds 16) (i2 := iAt ds 18) (k2 := iAt ds 19) (x2 := iAt ds 20) (y2 := iAt ds 21) (r2 := iAt ds 22) (d2 := iAt ds 24) (s2 := iAt ds 25)
  have Y := same_symm (i1 := iAt ds 0) (k1 := iAt ds 1) (x1 := iAt ds 2) (y1 := iAt ds 3) (r1 := iAt ds 4) (a1 := rAt ds 5) (d1 := iAt ds 6) (s1 := iAt ds 7) (t1 := rAt ds 8) (i2 := iAt ds 9) (k2 := iAt ds 10) (x2 := iAt ds 11) (y2 := iAt ds 12) (r2 := iAt ds 13) (a2 := rAt ds 14) (d2 := iAt ds 15) (s2 := iAt ds 16) (t2 := rAt ds 17)
  have H := hold_self (i1 := iAt ds 0) (k1 := iAt ds 1) (x1 := iAt ds 2) (y1 := iAt ds 3) (r1 := iAt ds 4) (a1 := rAt ds 5) (d1 := iAt ds 6) (s1 := iAt ds 7) (t1 := rAt ds 8)
  have Z := stand_self (i1 := iAt ds 0) (k1 := iAt ds 1) (x1 := iAt ds 2) (y1 := iAt ds 3) (r1 := iAt ds 4) (a1 := rAt ds 5) (d1 := iAt ds 6) (s1 := iAt ds 7) (t1 := rAt ds 8)
  have G := same_self (i1 := iAt ds 0) (k1 := iAt ds 1) (x1 := iAt ds 2) (y1 := iAt ds 3) (r1 := iAt ds 4) (a1 := rAt ds 5) (d1 := iAt ds 6) (s1 := iAt ds 7) (t1 := rAt ds 8)
  have E : ∀ x y : Int, (decide (x = y) == cmpEv BinOp.eql x y) = true := fun x y => by
    have : cmpEv BinOp.eql x y = decide (x = y) := by
      rw [Bool.eq_iff_iff, cmp_t]
      simp only [cmpP, decide_eq_true_eq]
    rw [this]; simp
  simp only [E, G]
  have A1 : sameB (iAt ds 0) (iAt ds 1) (iAt ds 2) (iAt ds 3) (iAt ds 4) (rAt ds 5) (iAt ds 6) (iAt ds 7) (rAt ds 8) (iAt ds 9) (iAt ds 10) (iAt ds 11) (iAt ds 12) (iAt ds 13) (rAt ds 14) (iAt ds 15) (iAt ds 16) (rAt ds 17) = true → featB (iAt ds 9) (iAt ds 10) (iAt ds 11) (iAt ds 12) (iAt ds 13) (rAt ds 14) (iAt ds 15) (iAt ds 16) (rAt ds 17) = featB (iAt ds 0) (iAt ds 1) (iAt ds 2) (iAt ds 3) (iAt ds 4) (rAt ds 5) (iAt ds 6) (iAt ds 7) (rAt ds 8) := fun h => by
    obtain ⟨⟨e1, e2, e3, e4⟩, ⟨e5, e6, e7⟩, e8, e9⟩ := S12 h
    rw [e1, e2, e3, e4, e5, e6, e7, e8, e9]
  have A2 : sameB (iAt ds 0) (iAt ds 1) (iAt ds 2) (iAt ds 3) (iAt ds 4) (rAt ds 5) (iAt ds 6) (iAt ds 7) (rAt ds 8) (iAt ds 9) (iAt ds 10) (iAt ds 11) (iAt ds 12) (iAt ds 13) (rAt ds 14) (iAt ds 15) (iAt ds 16) (rAt ds 17) = true → featB (iAt ds 0) (iAt ds 1) (iAt ds 2) (iAt ds 3) (iAt ds 4) (rAt ds 5) (iAt ds 6) (iAt ds 7) (rAt ds 8) = true → holdX (iAt ds 1) (iAt ds 2) (iAt ds 3) (iAt ds 4) (rAt ds 5) (iAt ds 10) (iAt ds 11) (iAt ds 12) (iAt ds 13) (rAt ds 14) = true := fun h hv => by
    obtain ⟨⟨e1, e2, e3, e4⟩, ⟨e5, e6, e7⟩, e8, e9⟩ := S12 h
    rw [e2, e3, e4, e5, e8]
    exact H hv
  have A3 : sameB (iAt ds 0) (iAt ds 1) (iAt ds 2) (iAt ds 3) (iAt ds 4) (rAt ds 5) (iAt ds 6) (iAt ds 7) (rAt ds 8) (iAt ds 9) (iAt ds 10) (iAt ds 11) (iAt ds 12) (iAt ds 13) (rAt ds 14) (iAt ds 15) (iAt ds 16) (rAt ds 17) = true → featB (iAt ds 0) (iAt ds 1) (iAt ds 2) (iAt ds 3) (iAt ds 4) (rAt ds 5) (iAt ds 6) (iAt ds 7) (rAt ds 8) = true → standX (iAt ds 1) (iAt ds 2) (iAt ds 3) (iAt ds 4) (rAt ds 5) (iAt ds 6) (rAt ds 8) (iAt ds 10) (iAt ds 11) (iAt ds 12) (iAt ds 13) (rAt ds 14) (iAt ds 15) (rAt ds 17) = true := fun h hv => by
    obtain ⟨⟨e1, e2, e3, e4⟩, ⟨e5, e6, e7⟩, e8, e9⟩ := S12 h
    rw [e2, e3, e4, e5, e6, e8, e9]
    exact Z hv
  have A4 : sameB (iAt ds 0) (iAt ds 1) (iAt ds 2) (iAt ds 3) (iAt ds 4) (rAt ds 5) (iAt ds 6) (iAt ds 7) (rAt ds 8) (iAt ds 9) (iAt ds 10) (iAt ds 11) (iAt ds 12) (iAt ds 13) (rAt ds 14) (iAt ds 15) (iAt ds 16) (rAt ds 17) = true → sameB (iAt ds 9) (iAt ds 10) (iAt ds 11) (iAt ds 12) (iAt ds 13) (rAt ds 14) (iAt ds 15) (iAt ds 16) (rAt ds 17) (iAt ds 18) (iAt ds 19) (iAt ds 20) (iAt ds 21) (iAt ds 22) (rAt ds 23) (iAt ds 24) (iAt ds 25) (rAt ds 26) = true → sameB (iAt ds 0) (iAt ds 1) (iAt ds 2) (iAt ds 3) (iAt ds 4) (rAt ds 5) (iAt ds 6) (iAt ds 7) (rAt ds 8) (iAt ds 18) (iAt ds 19) (iAt ds 20) (iAt ds 21) (iAt ds 22) (rAt ds 23) (iAt ds 24) (iAt ds 25) (rAt ds 26) = true := fun h h' => by
    obtain ⟨⟨e1, e2, e3, e4⟩, ⟨e5, e6, e7⟩, e8, e9⟩ := S12 h
    obtain ⟨⟨f1, f2, f3, f4⟩, ⟨f5, f6, f7⟩, f8, f9⟩ := S23 h'
    rw [f1, f2, f3, f4, f5, f6, f7, f8, f9, e1, e2, e3, e4, e5, e6, e7, e8, e9]
    exact G
  clear S12 S23 H Z G hr w1 w2 w3 w4 w5 w6 E
  generalize sameB (iAt ds 0) (iAt ds 1) (iAt ds 2) (iAt ds 3) (iAt ds 4) (rAt ds 5) (iAt ds 6) (iAt ds 7) (rAt ds 8) (iAt ds 9) (iAt ds 10) (iAt ds 11) (iAt ds 12) (iAt ds 13) (rAt ds 14) (iAt ds 15) (iAt ds 16) (rAt ds 17) = b12 at *
  generalize sameB (iAt ds 9) (iAt ds 10) (iAt ds 11) (iAt ds 12) (iAt ds 13) (rAt ds 14) (iAt ds 15) (iAt ds 16) (rAt ds 17) (iAt ds 0) (iAt ds 1) (iAt ds 2) (iAt ds 3) (iAt ds 4) (rAt ds 5) (iAt ds 6) (iAt ds 7) (rAt ds 8) = b21 at *
  generalize sameB (iAt ds 9) (iAt ds 10) (iAt ds 11) (iAt ds 12) (iAt ds 13) (rAt ds 14) (iAt ds 15) (iAt ds 16) (rAt ds 17) (iAt ds 18) (iAt ds 19) (iAt ds 20) (iAt ds 21) (iAt ds 22) (rAt ds 23) (iAt ds 24) (iAt ds 25) (rAt ds 26) = b23 at *
  generalize sameB (iAt ds 0) (iAt ds 1) (iAt ds 2) (iAt ds 3) (iAt ds 4) (rAt ds 5) (iAt ds 6) (iAt ds 7) (rAt ds 8) (iAt ds 18) (iAt ds 19) (iAt ds 20) (iAt ds 21) (iAt ds 22) (rAt ds 23) (iAt ds 24) (iAt ds 25) (rAt ds 26) = b13 at *
  generalize holdX (iAt ds 1) (iAt ds 2) (iAt ds 3) (iAt ds 4) (rAt ds 5) (iAt ds 10) (iAt ds 11) (iAt ds 12) (iAt ds 13) (rAt ds 14) = hh at *
  generalize standX (iAt ds 1) (iAt ds 2) (iAt ds 3) (iAt ds 4) (rAt ds 5) (iAt ds 6) (rAt ds 8) (iAt ds 10) (iAt ds 11) (iAt ds 12) (iAt ds 13) (rAt ds 14) (iAt ds 15) (rAt ds 17) = st at *
  generalize featB (iAt ds 0) (iAt ds 1) (iAt ds 2) (iAt ds 3) (iAt ds 4) (rAt ds 5) (iAt ds 6) (iAt ds 7) (rAt ds 8) = v1 at *
  generalize featB (iAt ds 9) (iAt ds 10) (iAt ds 11) (iAt ds 12) (iAt ds 13) (rAt ds 14) (iAt ds 15) (iAt ds 16) (rAt ds 17) = v2 at *
  cases b12 <;> cases b21 <;> cases b23 <;> cases b13 <;> cases hh <;> cases st <;> cases v1 <;> cases v2 <;> first | exact absurd Y (by decide) | exact absurd (A1 rfl) (by decide) | exact absurd (A2 rfl rfl) (by decide) | exact absurd (A3 rfl rfl) (by decide) | exact absurd (A4 rfl rfl) (by decide) | simp [cmpEv]
end Go.Proofs.Ytglepdhapakmbaa
