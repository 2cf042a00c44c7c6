/- LAck, merged: TAl, Al. -/
import Derived.Test.YtbbjlleaofgddaaGreatAD
set_option linter.unusedSimpArgs false
set_option linter.unusedVariables false
/- Chapter 42: trees of the laws Acknowledged. -/
namespace Go.Proofs.YtbbjlleaofgddaaGreat
open Go.RowKit
def trLawAck : TT OpR :=
(.ite (.cmp .gtr (.len (.var 1)) (.lit 8))
 (.ret ((.v (.one (.z (.bool (.lit true))))), [], 3))
 (.ite (.not (.fn 223 (.x (.var 1) .nil)))
 (.ret ((.v (.one (.z (.bool (.lit true))))), [], 3))
 (.ite (.not (.fn 222 (.x (.app (.row (.i (.var 6) (.i (.var 7) (.i (.var 8) (.i (.var 9) (.i (.var 10) (.i (.var 11) (.x (.var 12) .nil)))))))) (.app (.row (.i (.var 17) (.i (.var 18) (.i (.var 19) (.i (.var 20) (.i (.var 21) (.i (.var 22) (.x (.var 23) .nil)))))))) .nil)) .nil)))
 (.ret ((.v (.one (.z (.bool (.lit true))))), [], 4))
 (.loop 0 8000 ⟨[], [(0, (.lit false))], []⟩
 (.ite (.var 8000)
 (.ite (.var 8003)
 (.loop 1 13000 ⟨[], [(0, (.lit false))], []⟩
 (.ite (.var 13000)
 (.ite (.var 13003)
 (.ret ((.v (.one (.z (.bool (.lit true))))), [], 14))
 (.ite (.cmp .gtr (.var 15) (.ar .add .i64 (.var 0) (.len (.var 1))))
 (.ret ((.v (.one (.z (.bool (.lit true))))), [], 14))
 (.ob (.tru (.cmp .leq (.lit 0) (.mx (.ar .sub .i64 (.var 15) (.var 0)) (.lit 0))))
 (.ob (.tru (.cmp .leq (.mx (.ar .sub .i64 (.var 15) (.var 0)) (.lit 0)) (.len (.var 1))))
 (.ob (.tru (.lit true))
 (.ob (.tru (.cmp .leq (.len (.sub (.var 1) (.mx (.ar .sub .i64 (.var 15) (.var 0)) (.lit 0)) (.len (.var 1)))) (.lit 1000000)))
 (.ret ((.v (.one (.z (.bool (.lit true))))), [], 15))))))))
 (.ite (.not (.fn 210 (.i (.var 0) (.x (.var 1) .nil))))
 (.next 1 ⟨[], [(3, (.lit true)), (1, (.lit true)), (2, (.lit true)), (4, (.lit true)), (5, (.lit true)), (0, (.lit true))], []⟩)
 (.ite (.not (.fn 200 (.i (.var 13) (.i (.var 14) (.i (.var 15) (.b (.var 16) (.i (.var 17) (.i (.var 18) (.i (.var 19) (.i (.var 20) (.i (.var 21) (.i (.var 22) (.x (.var 23) .nil)))))))))))))
 (.next 1 ⟨[], [(3, (.lit true)), (1, (.lit false)), (2, (.not (.fn 200 (.i (.var 13) (.i (.var 14) (.i (.var 15) (.b (.var 16) (.i (.var 17) (.i (.var 18) (.i (.var 19) (.i (.var 20) (.i (.var 21) (.i (.var 22) (.x (.var 23) .nil)))))))))))))), (4, (.lit true)), (5, (.lit true)), (0, (.lit true))], []⟩)
 (.next 1 ⟨[], [(3, (.not (.fn 201 (.x (.var 1) (.i (.var 14) (.i (.var 13) .nil)))))), (1, (.lit false)), (2, (.not (.fn 200 (.i (.var 13) (.i (.var 14) (.i (.var 15) (.b (.var 16) (.i (.var 17) (.i (.var 18) (.i (.var 19) (.i (.var 20) (.i (.var 21) (.i (.var 22) (.x (.var 23) .nil)))))))))))))), (4, (.lit false)), (5, (.not (.fn 201 (.x (.var 1) (.i (.var 14) (.i (.var 13) .nil)))))), (0, (.lit true))], []⟩)))))
 (.ite (.cmp .gtr (.var 4) (.ar .add .i64 (.var 0) (.len (.var 1))))
 (.loop 1 13000 ⟨[], [(0, (.lit false))], []⟩
 (.ite (.var 13000)
 (.ite (.var 13003)
 (.ret ((.v (.one (.z (.bool (.lit true))))), [], 14))
 (.ite (.cmp .gtr (.var 15) (.ar .add .i64 (.var 0) (.len (.var 1))))
 (.ret ((.v (.one (.z (.bool (.lit true))))), [], 14))
 (.ob (.tru (.cmp .leq (.lit 0) (.mx (.ar .sub .i64 (.var 15) (.var 0)) (.lit 0))))
 (.ob (.tru (.cmp .leq (.mx (.ar .sub .i64 (.var 15) (.var 0)) (.lit 0)) (.len (.var 1))))
 (.ob (.tru (.lit true))
 (.ob (.tru (.cmp .leq (.len (.sub (.var 1) (.mx (.ar .sub .i64 (.var 15) (.var 0)) (.lit 0)) (.len (.var 1)))) (.lit 1000000)))
 (.ret ((.v (.one (.z (.bool (.lit true))))), [], 15))))))))
 (.ite (.not (.fn 210 (.i (.var 0) (.x (.var 1) .nil))))
 (.next 1 ⟨[], [(3, (.lit true)), (1, (.lit true)), (2, (.lit true)), (4, (.lit true)), (5, (.lit true)), (0, (.lit true))], []⟩)
 (.ite (.not (.fn 200 (.i (.var 13) (.i (.var 14) (.i (.var 15) (.b (.var 16) (.i (.var 17) (.i (.var 18) (.i (.var 19) (.i (.var 20) (.i (.var 21) (.i (.var 22) (.x (.var 23) .nil)))))))))))))
 (.next 1 ⟨[], [(3, (.lit true)), (1, (.lit false)), (2, (.not (.fn 200 (.i (.var 13) (.i (.var 14) (.i (.var 15) (.b (.var 16) (.i (.var 17) (.i (.var 18) (.i (.var 19) (.i (.var 20) (.i (.var 21) (.i (.var 22) (.x (.var 23) .nil)))))))))))))), (4, (.lit true)), (5, (.lit true)), (0, (.lit true))], []⟩)
 (.next 1 ⟨[], [(3, (.not (.fn 201 (.x (.var 1) (.i (.var 14) (.i (.var 13) .nil)))))), (1, (.lit false)), (2, (.not (.fn 200 (.i (.var 13) (.i (.var 14) (.i (.var 15) (.b (.var 16) (.i (.var 17) (.i (.var 18) (.i (.var 19) (.i (.var 20) (.i (.var 21) (.i (.var 22) (.x (.var 23) .nil)))))))))))))), (4, (.lit false)), (5, (.not (.fn 201 (.x (.var 1) (.i (.var 14) (.i (.var 13) .nil)))))), (0, (.lit true))], []⟩)))))
 (.ob (.tru (.cmp .leq (.lit 0) (.mx (.ar .sub .i64 (.var 4) (.var 0)) (.lit 0))))
 (.ob (.tru (.cmp .leq (.mx (.ar .sub .i64 (.var 4) (.var 0)) (.lit 0)) (.len (.var 1))))
 (.ob (.tru (.lit true))
 (.ob (.tru (.cmp .leq (.len (.sub (.var 1) (.mx (.ar .sub .i64 (.var 4) (.var 0)) (.lit 0)) (.len (.var 1)))) (.lit 1000000)))
 (.loop 1 14000 ⟨[], [(0, (.lit false))], []⟩
 (.ite (.var 14000)
 (.ite (.var 14003)
 (.ret ((.v (.one (.z (.bool (.lit true))))), [], 15))
 (.ite (.cmp .gtr (.var 15) (.ar .add .i64 (.var 0) (.len (.var 1))))
 (.ret ((.v (.one (.z (.bool (.lit true))))), [], 15))
 (.ob (.tru (.cmp .leq (.lit 0) (.mx (.ar .sub .i64 (.var 15) (.var 0)) (.lit 0))))
 (.ob (.tru (.cmp .leq (.mx (.ar .sub .i64 (.var 15) (.var 0)) (.lit 0)) (.len (.var 1))))
 (.ob (.tru (.lit true))
 (.ob (.tru (.cmp .leq (.len (.sub (.var 1) (.mx (.ar .sub .i64 (.var 15) (.var 0)) (.lit 0)) (.len (.var 1)))) (.lit 1000000)))
 (.loop 2 20000 ⟨[], [(0, (.lit false))], []⟩
 (.ite (.var 20000)
 (.ite (.var 20003)
 (.stuck "not possible")
 (.ite (.cmp .gtr (.var 15) (.ar .add .i64 (.ar .add .i64 (.var 0) (.mx (.ar .sub .i64 (.var 4) (.var 0)) (.lit 0))) (.len (.sub (.var 1) (.mx (.ar .sub .i64 (.var 4) (.var 0)) (.lit 0)) (.len (.var 1))))))
 (.stuck "not possible")
 (.ob (.tru (.cmp .leq (.lit 0) (.mx (.ar .sub .i64 (.var 15) (.ar .add .i64 (.var 0) (.mx (.ar .sub .i64 (.var 4) (.var 0)) (.lit 0)))) (.lit 0))))
 (.ob (.tru (.cmp .leq (.mx (.ar .sub .i64 (.var 15) (.ar .add .i64 (.var 0) (.mx (.ar .sub .i64 (.var 4) (.var 0)) (.lit 0)))) (.lit 0)) (.len (.sub (.var 1) (.mx (.ar .sub .i64 (.var 4) (.var 0)) (.lit 0)) (.len (.var 1))))))
 (.ob (.tru (.lit true))
 (.ob (.tru (.cmp .leq (.len (.sub (.sub (.var 1) (.mx (.ar .sub .i64 (.var 4) (.var 0)) (.lit 0)) (.len (.var 1))) (.mx (.ar .sub .i64 (.var 15) (.ar .add .i64 (.var 0) (.mx (.ar .sub .i64 (.var 4) (.var 0)) (.lit 0)))) (.lit 0)) (.len (.sub (.var 1) (.mx (.ar .sub .i64 (.var 4) (.var 0)) (.lit 0)) (.len (.var 1)))))) (.lit 1000000)))
 (.loop 3 26000 ⟨[], [(0, (.lit false))], []⟩
 (.ite (.var 26000)
 (.ite (.var 26003)
 (.stuck "not possible")
 (.ite (.cmp .gtr (.var 4) (.ar .add .i64 (.ar .add .i64 (.var 0) (.mx (.ar .sub .i64 (.var 15) (.var 0)) (.lit 0))) (.len (.sub (.var 1) (.mx (.ar .sub .i64 (.var 15) (.var 0)) (.lit 0)) (.len (.var 1))))))
 (.stuck "not possible")
 (.ob (.tru (.cmp .leq (.lit 0) (.mx (.ar .sub .i64 (.var 4) (.ar .add .i64 (.var 0) (.mx (.ar .sub .i64 (.var 15) (.var 0)) (.lit 0)))) (.lit 0))))
 (.ob (.tru (.cmp .leq (.mx (.ar .sub .i64 (.var 4) (.ar .add .i64 (.var 0) (.mx (.ar .sub .i64 (.var 15) (.var 0)) (.lit 0)))) (.lit 0)) (.len (.sub (.var 1) (.mx (.ar .sub .i64 (.var 15) (.var 0)) (.lit 0)) (.len (.var 1))))))
 (.ob (.tru (.lit true))
 (.ob (.tru (.cmp .leq (.len (.sub (.sub (.var 1) (.mx (.ar .sub .i64 (.var 15) (.var 0)) (.lit 0)) (.len (.var 1))) (.mx (.ar .sub .i64 (.var 4) (.ar .add .i64 (.var 0) (.mx (.ar .sub .i64 (.var 15) (.var 0)) (.lit 0)))) (.lit 0)) (.len (.sub (.var 1) (.mx (.ar .sub .i64 (.var 15) (.var 0)) (.lit 0)) (.len (.var 1)))))) (.lit 1000000)))
 (.loop 4 32000 ⟨[], [(0, (.lit false))], []⟩
 (.ite (.var 32000)
 (.ite (.var 32003)
 (.stuck "not possible")
 (.ite (.cmp .gtr (.var 4) (.ar .add .i64 (.ar .add .i64 (.var 0) (.mx (.ar .sub .i64 (.var 4) (.var 0)) (.lit 0))) (.len (.sub (.var 1) (.mx (.ar .sub .i64 (.var 4) (.var 0)) (.lit 0)) (.len (.var 1))))))
 (.stuck "not possible")
 (.ob (.tru (.cmp .leq (.lit 0) (.mx (.ar .sub .i64 (.var 4) (.ar .add .i64 (.var 0) (.mx (.ar .sub .i64 (.var 4) (.var 0)) (.lit 0)))) (.lit 0))))
 (.ob (.tru (.cmp .leq (.mx (.ar .sub .i64 (.var 4) (.ar .add .i64 (.var 0) (.mx (.ar .sub .i64 (.var 4) (.var 0)) (.lit 0)))) (.lit 0)) (.len (.sub (.var 1) (.mx (.ar .sub .i64 (.var 4) (.var 0)) (.lit 0)) (.len (.var 1))))))
 (.ob (.tru (.lit true))
 (.ob (.tru (.cmp .leq (.len (.sub (.sub (.var 1) (.mx (.ar .sub .i64 (.var 4) (.var 0)) (.lit 0)) (.len (.var 1))) (.mx (.ar .sub .i64 (.var 4) (.ar .add .i64 (.var 0) (.mx (.ar .sub .i64 (.var 4) (.var 0)) (.lit 0)))) (.lit 0)) (.len (.sub (.var 1) (.mx (.ar .sub .i64 (.var 4) (.var 0)) (.lit 0)) (.len (.var 1)))))) (.lit 1000000)))
 (.ite (.fn 224 (.i (.ar .add .i64 (.ar .add .i64 (.var 0) (.mx (.ar .sub .i64 (.var 4) (.var 0)) (.lit 0))) (.mx (.ar .sub .i64 (.var 15) (.ar .add .i64 (.var 0) (.mx (.ar .sub .i64 (.var 4) (.var 0)) (.lit 0)))) (.lit 0))) (.x (.sub (.sub (.var 1) (.mx (.ar .sub .i64 (.var 4) (.var 0)) (.lit 0)) (.len (.var 1))) (.mx (.ar .sub .i64 (.var 15) (.ar .add .i64 (.var 0) (.mx (.ar .sub .i64 (.var 4) (.var 0)) (.lit 0)))) (.lit 0)) (.len (.sub (.var 1) (.mx (.ar .sub .i64 (.var 4) (.var 0)) (.lit 0)) (.len (.var 1))))) (.i (.ar .add .i64 (.ar .add .i64 (.var 0) (.mx (.ar .sub .i64 (.var 15) (.var 0)) (.lit 0))) (.mx (.ar .sub .i64 (.var 4) (.ar .add .i64 (.var 0) (.mx (.ar .sub .i64 (.var 15) (.var 0)) (.lit 0)))) (.lit 0))) (.x (.sub (.sub (.var 1) (.mx (.ar .sub .i64 (.var 15) (.var 0)) (.lit 0)) (.len (.var 1))) (.mx (.ar .sub .i64 (.var 4) (.ar .add .i64 (.var 0) (.mx (.ar .sub .i64 (.var 15) (.var 0)) (.lit 0)))) (.lit 0)) (.len (.sub (.var 1) (.mx (.ar .sub .i64 (.var 15) (.var 0)) (.lit 0)) (.len (.var 1))))) .nil)))))
 (.ite (.fn 224 (.i (.ar .add .i64 (.ar .add .i64 (.var 0) (.mx (.ar .sub .i64 (.var 4) (.var 0)) (.lit 0))) (.mx (.ar .sub .i64 (.var 4) (.ar .add .i64 (.var 0) (.mx (.ar .sub .i64 (.var 4) (.var 0)) (.lit 0)))) (.lit 0))) (.x (.sub (.sub (.var 1) (.mx (.ar .sub .i64 (.var 4) (.var 0)) (.lit 0)) (.len (.var 1))) (.mx (.ar .sub .i64 (.var 4) (.ar .add .i64 (.var 0) (.mx (.ar .sub .i64 (.var 4) (.var 0)) (.lit 0)))) (.lit 0)) (.len (.sub (.var 1) (.mx (.ar .sub .i64 (.var 4) (.var 0)) (.lit 0)) (.len (.var 1))))) (.i (.ar .add .i64 (.var 0) (.mx (.ar .sub .i64 (.var 4) (.var 0)) (.lit 0))) (.x (.sub (.var 1) (.mx (.ar .sub .i64 (.var 4) (.var 0)) (.lit 0)) (.len (.var 1))) .nil)))))
 (.ite (.cmp .eql (.ar .add .i64 (.ar .add .i64 (.var 0) (.mx (.ar .sub .i64 (.var 4) (.var 0)) (.lit 0))) (.mx (.ar .sub .i64 (.var 15) (.ar .add .i64 (.var 0) (.mx (.ar .sub .i64 (.var 4) (.var 0)) (.lit 0)))) (.lit 0))) (.mx (.mx (.var 0) (.var 4)) (.var 15)))
 (.ret ((.v (.one (.z (.bool (.cmp .eql (.ar .add .i64 (.ar .add .i64 (.ar .add .i64 (.var 0) (.mx (.ar .sub .i64 (.var 4) (.var 0)) (.lit 0))) (.mx (.ar .sub .i64 (.var 15) (.ar .add .i64 (.var 0) (.mx (.ar .sub .i64 (.var 4) (.var 0)) (.lit 0)))) (.lit 0))) (.len (.sub (.sub (.var 1) (.mx (.ar .sub .i64 (.var 4) (.var 0)) (.lit 0)) (.len (.var 1))) (.mx (.ar .sub .i64 (.var 15) (.ar .add .i64 (.var 0) (.mx (.ar .sub .i64 (.var 4) (.var 0)) (.lit 0)))) (.lit 0)) (.len (.sub (.var 1) (.mx (.ar .sub .i64 (.var 4) (.var 0)) (.lit 0)) (.len (.var 1))))))) (.ar .add .i64 (.var 0) (.len (.var 1)))))))), [], 34))
 (.ret ((.v (.one (.z (.bool (.lit false))))), [], 34)))
 (.ret ((.v (.one (.z (.bool (.lit false))))), [], 34)))
 (.ret ((.v (.one (.z (.bool (.lit false))))), [], 34)))))))))
 (.ite (.not (.fn 210 (.i (.ar .add .i64 (.var 0) (.mx (.ar .sub .i64 (.var 4) (.var 0)) (.lit 0))) (.x (.sub (.var 1) (.mx (.ar .sub .i64 (.var 4) (.var 0)) (.lit 0)) (.len (.var 1))) .nil))))
 (.next 4 ⟨[], [(3, (.lit true)), (1, (.lit true)), (2, (.lit true)), (4, (.lit true)), (5, (.lit true)), (0, (.lit true))], []⟩)
 (.ite (.not (.fn 200 (.i (.var 2) (.i (.var 3) (.i (.var 4) (.b (.var 5) (.i (.var 6) (.i (.var 7) (.i (.var 8) (.i (.var 9) (.i (.var 10) (.i (.var 11) (.x (.var 12) .nil)))))))))))))
 (.next 4 ⟨[], [(3, (.lit true)), (1, (.lit false)), (2, (.not (.fn 200 (.i (.var 2) (.i (.var 3) (.i (.var 4) (.b (.var 5) (.i (.var 6) (.i (.var 7) (.i (.var 8) (.i (.var 9) (.i (.var 10) (.i (.var 11) (.x (.var 12) .nil)))))))))))))), (4, (.lit true)), (5, (.lit true)), (0, (.lit true))], []⟩)
 (.next 4 ⟨[], [(3, (.not (.fn 201 (.x (.sub (.var 1) (.mx (.ar .sub .i64 (.var 4) (.var 0)) (.lit 0)) (.len (.var 1))) (.i (.var 3) (.i (.var 2) .nil)))))), (1, (.lit false)), (2, (.not (.fn 200 (.i (.var 2) (.i (.var 3) (.i (.var 4) (.b (.var 5) (.i (.var 6) (.i (.var 7) (.i (.var 8) (.i (.var 9) (.i (.var 10) (.i (.var 11) (.x (.var 12) .nil)))))))))))))), (4, (.lit false)), (5, (.not (.fn 201 (.x (.sub (.var 1) (.mx (.ar .sub .i64 (.var 4) (.var 0)) (.lit 0)) (.len (.var 1))) (.i (.var 3) (.i (.var 2) .nil)))))), (0, (.lit true))], []⟩)))))))))))
 (.ite (.not (.fn 210 (.i (.ar .add .i64 (.var 0) (.mx (.ar .sub .i64 (.var 15) (.var 0)) (.lit 0))) (.x (.sub (.var 1) (.mx (.ar .sub .i64 (.var 15) (.var 0)) (.lit 0)) (.len (.var 1))) .nil))))
 (.next 3 ⟨[], [(3, (.lit true)), (1, (.lit true)), (2, (.lit true)), (4, (.lit true)), (5, (.lit true)), (0, (.lit true))], []⟩)
 (.ite (.not (.fn 200 (.i (.var 2) (.i (.var 3) (.i (.var 4) (.b (.var 5) (.i (.var 6) (.i (.var 7) (.i (.var 8) (.i (.var 9) (.i (.var 10) (.i (.var 11) (.x (.var 12) .nil)))))))))))))
 (.next 3 ⟨[], [(3, (.lit true)), (1, (.lit false)), (2, (.not (.fn 200 (.i (.var 2) (.i (.var 3) (.i (.var 4) (.b (.var 5) (.i (.var 6) (.i (.var 7) (.i (.var 8) (.i (.var 9) (.i (.var 10) (.i (.var 11) (.x (.var 12) .nil)))))))))))))), (4, (.lit true)), (5, (.lit true)), (0, (.lit true))], []⟩)
 (.next 3 ⟨[], [(3, (.not (.fn 201 (.x (.sub (.var 1) (.mx (.ar .sub .i64 (.var 15) (.var 0)) (.lit 0)) (.len (.var 1))) (.i (.var 3) (.i (.var 2) .nil)))))), (1, (.lit false)), (2, (.not (.fn 200 (.i (.var 2) (.i (.var 3) (.i (.var 4) (.b (.var 5) (.i (.var 6) (.i (.var 7) (.i (.var 8) (.i (.var 9) (.i (.var 10) (.i (.var 11) (.x (.var 12) .nil)))))))))))))), (4, (.lit false)), (5, (.not (.fn 201 (.x (.sub (.var 1) (.mx (.ar .sub .i64 (.var 15) (.var 0)) (.lit 0)) (.len (.var 1))) (.i (.var 3) (.i (.var 2) .nil)))))), (0, (.lit true))], []⟩)))))))))))
 (.ite (.not (.fn 210 (.i (.ar .add .i64 (.var 0) (.mx (.ar .sub .i64 (.var 4) (.var 0)) (.lit 0))) (.x (.sub (.var 1) (.mx (.ar .sub .i64 (.var 4) (.var 0)) (.lit 0)) (.len (.var 1))) .nil))))
 (.next 2 ⟨[], [(3, (.lit true)), (1, (.lit true)), (2, (.lit true)), (4, (.lit true)), (5, (.lit true)), (0, (.lit true))], []⟩)
 (.ite (.not (.fn 200 (.i (.var 13) (.i (.var 14) (.i (.var 15) (.b (.var 16) (.i (.var 17) (.i (.var 18) (.i (.var 19) (.i (.var 20) (.i (.var 21) (.i (.var 22) (.x (.var 23) .nil)))))))))))))
 (.next 2 ⟨[], [(3, (.lit true)), (1, (.lit false)), (2, (.not (.fn 200 (.i (.var 13) (.i (.var 14) (.i (.var 15) (.b (.var 16) (.i (.var 17) (.i (.var 18) (.i (.var 19) (.i (.var 20) (.i (.var 21) (.i (.var 22) (.x (.var 23) .nil)))))))))))))), (4, (.lit true)), (5, (.lit true)), (0, (.lit true))], []⟩)
 (.next 2 ⟨[], [(3, (.not (.fn 201 (.x (.sub (.var 1) (.mx (.ar .sub .i64 (.var 4) (.var 0)) (.lit 0)) (.len (.var 1))) (.i (.var 14) (.i (.var 13) .nil)))))), (1, (.lit false)), (2, (.not (.fn 200 (.i (.var 13) (.i (.var 14) (.i (.var 15) (.b (.var 16) (.i (.var 17) (.i (.var 18) (.i (.var 19) (.i (.var 20) (.i (.var 21) (.i (.var 22) (.x (.var 23) .nil)))))))))))))), (4, (.lit false)), (5, (.not (.fn 201 (.x (.sub (.var 1) (.mx (.ar .sub .i64 (.var 4) (.var 0)) (.lit 0)) (.len (.var 1))) (.i (.var 14) (.i (.var 13) .nil)))))), (0, (.lit true))], []⟩)))))))))))
 (.ite (.not (.fn 210 (.i (.var 0) (.x (.var 1) .nil))))
 (.next 1 ⟨[], [(3, (.lit true)), (1, (.lit true)), (2, (.lit true)), (4, (.lit true)), (5, (.lit true)), (0, (.lit true))], []⟩)
 (.ite (.not (.fn 200 (.i (.var 13) (.i (.var 14) (.i (.var 15) (.b (.var 16) (.i (.var 17) (.i (.var 18) (.i (.var 19) (.i (.var 20) (.i (.var 21) (.i (.var 22) (.x (.var 23) .nil)))))))))))))
 (.next 1 ⟨[], [(3, (.lit true)), (1, (.lit false)), (2, (.not (.fn 200 (.i (.var 13) (.i (.var 14) (.i (.var 15) (.b (.var 16) (.i (.var 17) (.i (.var 18) (.i (.var 19) (.i (.var 20) (.i (.var 21) (.i (.var 22) (.x (.var 23) .nil)))))))))))))), (4, (.lit true)), (5, (.lit true)), (0, (.lit true))], []⟩)
 (.next 1 ⟨[], [(3, (.not (.fn 201 (.x (.var 1) (.i (.var 14) (.i (.var 13) .nil)))))), (1, (.lit false)), (2, (.not (.fn 200 (.i (.var 13) (.i (.var 14) (.i (.var 15) (.b (.var 16) (.i (.var 17) (.i (.var 18) (.i (.var 19) (.i (.var 20) (.i (.var 21) (.i (.var 22) (.x (.var 23) .nil)))))))))))))), (4, (.lit false)), (5, (.not (.fn 201 (.x (.var 1) (.i (.var 14) (.i (.var 13) .nil)))))), (0, (.lit true))], []⟩)))))))))))
 (.ite (.not (.fn 210 (.i (.var 0) (.x (.var 1) .nil))))
 (.next 0 ⟨[], [(3, (.lit true)), (1, (.lit true)), (2, (.lit true)), (4, (.lit true)), (5, (.lit true)), (0, (.lit true))], []⟩)
 (.ite (.not (.fn 200 (.i (.var 2) (.i (.var 3) (.i (.var 4) (.b (.var 5) (.i (.var 6) (.i (.var 7) (.i (.var 8) (.i (.var 9) (.i (.var 10) (.i (.var 11) (.x (.var 12) .nil)))))))))))))
 (.next 0 ⟨[], [(3, (.lit true)), (1, (.lit false)), (2, (.not (.fn 200 (.i (.var 2) (.i (.var 3) (.i (.var 4) (.b (.var 5) (.i (.var 6) (.i (.var 7) (.i (.var 8) (.i (.var 9) (.i (.var 10) (.i (.var 11) (.x (.var 12) .nil)))))))))))))), (4, (.lit true)), (5, (.lit true)), (0, (.lit true))], []⟩)
 (.next 0 ⟨[], [(3, (.not (.fn 201 (.x (.var 1) (.i (.var 3) (.i (.var 2) .nil)))))), (1, (.lit false)), (2, (.not (.fn 200 (.i (.var 2) (.i (.var 3) (.i (.var 4) (.b (.var 5) (.i (.var 6) (.i (.var 7) (.i (.var 8) (.i (.var 9) (.i (.var 10) (.i (.var 11) (.x (.var 12) .nil)))))))))))))), (4, (.lit false)), (5, (.not (.fn 201 (.x (.var 1) (.i (.var 3) (.i (.var 2) .nil)))))), (0, (.lit true))], []⟩))))))))
set_option maxRecDepth 100000 in
theorem trLawAck_is : T.norm 0 (call Tryz.prog (ctX1 Tryz.prog) (Lt.of []) 200 8 (symArgs 0 [boxS, letS, letS]) [] 0) TT.ret = trLawAck := by kernel_rfl
theorem trLawAck_low : trLawAck.low 1000 = true := by kernel_rfl
end Go.Proofs.YtbbjlleaofgddaaGreat
/- Chapter 42: the law Acknowledged. -/
namespace Go.Proofs.YtbbjlleaofgddaaGreat
open Go.RowKit
theorem subR_end (r : Rows) (k : Int) : subR r k ((r.length : Nat) : Int) = r.drop k.toNat := by
  unfold subR
  rw [Int.toNat_natCast, List.take_of_length_le (by rw [List.length_drop]; omega)]
theorem lg_drop (r : Rows) (k i j : Nat) : lg (r.drop k) i j = lg r (k + i : Nat) j := by
  unfold lg cellAt
  rw [Int.toNat_natCast, Int.toNat_natCast, List.getElem?_drop]
theorem ours_drop {r : Rows} {f t : Int} (h : oursB r f t = true) (k : Nat) : oursB (r.drop k) f t = true := by
  unfold oursB at *
  rw [List.all_eq_true] at *
  exact fun x hx => h x (List.mem_of_mem_drop hx)
theorem ours_row {r : Rows} {f t : Int} (h : oursB r f t = true) {i : Nat} (hi : i < r.length) : lg r i 0 = f ∧ lg r i 1 = t := by
  unfold oursB at h
  rw [List.all_eq_true] at h
  have := h _ (List.getElem_mem hi)
  simp only [Bool.and_eq_true, decide_eq_true_eq] at this
  rw [lg_cI hi, lg_cI hi]
  exact this.2
theorem alk_of {r : Rows} {f t : Int} (h : oursB r f t = true) : alkB r = true := by
  unfold alkB
  by_cases e : r.length = 0
  · rw [decide_eq_true e, Bool.true_or]
  · obtain ⟨a, b⟩ := ours_row h (i := 0) (by omega)
    rw [show (lg r 0 0) = f from a, show lg r 0 1 = t from b, h, Bool.or_true]
theorem alk_drop {r : Rows} (h : alkB r = true) (k : Nat) : alkB (r.drop k) = true := by
  unfold alkB at h
  rw [Bool.or_eq_true, decide_eq_true_eq] at h
  rcases h with h | h
  · unfold alkB
    rw [decide_eq_true (by rw [List.length_drop]; omega), Bool.true_or]
  · exact alk_of (ours_drop h k)
theorem out_iff {q : Int} {r : Rows} : outB q r = true ↔ (0 ≤ q ∧ q ≤ 1000 ∧ (r.length : Int) ≤ 1000 - q) ∧ alkB r = true ∧ ∀ i, i < r.length → lg r i 2 = q + i := by
  unfold outB
  simp only [Bool.and_eq_true, decide_eq_true_eq]
  exact and_assoc
theorem out_drop {q : Int} {r : Rows} (h : outB q r = true) {k : Nat} (hk : k ≤ r.length) : outB (q + k) (r.drop k) = true := by
  obtain ⟨h1, h2, h3⟩ := out_iff.1 h
  refine out_iff.2 ⟨by rw [List.length_drop]; omega, alk_drop h2 k, fun i hi => ?_⟩
  rw [List.length_drop] at hi
  rw [lg_drop, h3 _ (by omega)]; omega
theorem bx_four (a b : Int) (r s : Rows) : bxL [.i a, .l r, .i b, .l s] = (rowsEqb r s && decide (a = b)) := rfl
theorem Q5b200 (W : World) (ds l : List D) : (envOf Q5 W ds).fb 200 l = ackL l := by simp only [envOf, Q5, Q4, Q3]
theorem Q5b201 (W : World) (ds l : List D) : (envOf Q5 W ds).fb 201 l = oursL l := by simp only [envOf, Q5, Q4, Q3]
theorem Q5b210 (W : World) (ds l : List D) : (envOf Q5 W ds).fb 210 l = outL l := by simp only [envOf, Q5, Q4]
theorem Q5b223 (W : World) (ds l : List D) : (envOf Q5 W ds).fb 223 l = smL l := by simp only [envOf, Q5]
theorem Q5b224 (W : World) (ds l : List D) : (envOf Q5 W ds).fb 224 l = bxL l := by simp only [envOf, Q5]
theorem hear_num {q aS : Int} {r : Rows} (h : outB q r = true) (ha : 0 ≤ aS ∧ aS ≤ 1000) (hs : aS ≤ q + r.length) : max (aS - q) 0 = (((aS - q).toNat : Nat) : Int) ∧ (aS - q).toNat ≤ r.length := by
  obtain ⟨h1, _, _⟩ := out_iff.1 h
  omega
theorem ack_seq {ds : List D} (h : ackL ds = true) : 0 ≤ iAt ds 2 ∧ iAt ds 2 ≤ 1000 := by
  unfold ackL ackB at h
  simp only [Bool.and_eq_true, decide_eq_true_eq] at h
  exact ⟨h.1.2.2.1, h.1.2.2.2⟩
def aOf (ds : List D) (j : Nat) : List D := [.i (iAt ds j), .i (iAt ds (j + 1)), .i (iAt ds (j + 2)), .b (bAt ds (j + 3)), .i (iAt ds (j + 4)), .i (iAt ds (j + 5)), .i (iAt ds (j + 6)), .i (iAt ds (j + 7)), .i (iAt ds (j + 8)), .i (iAt ds (j + 9)), .l (rAt ds (j + 10))]
theorem ours_three (r : Rows) (a b : Int) : oursL [.l r, .i a, .i b] = oursB r a b := rfl
theorem out_two (q : Int) (r : Rows) : outL [.i q, .l r] = outB q r := rfl
theorem ack_aOf {ds : List D} {j : Nat} (h : ackL (aOf ds j) = true) : 0 ≤ iAt ds (j + 2) ∧ iAt ds (j + 2) ≤ 1000 := ack_seq h
theorem wq {q : Int} {r : Rows} (h : outB q r = true) : IntKind.i64.wrap (q + (r.length : Nat)) = q + (r.length : Nat) := by
  obtain ⟨h1, _, _⟩ := out_iff.1 h
  exact wrap_in _ (by omega) (by omega)
theorem wk {q aS : Int} {r : Rows} (h : outB q r = true) (ha : 0 ≤ aS ∧ aS ≤ 1000) : max (IntKind.i64.wrap (aS - q)) 0 = (((aS - q).toNat : Nat) : Int) := by
  obtain ⟨h1, _, _⟩ := out_iff.1 h
  rw [wrap_in _ (by omega) (by omega)]; omega
theorem wqk {q : Int} {r : Rows} (h : outB q r = true) {k : Nat} (hk : k ≤ r.length) : IntKind.i64.wrap (q + (k : Int)) = q + k := by
  obtain ⟨h1, _, _⟩ := out_iff.1 h
  exact wrap_in _ (by omega) (by omega)
theorem kle {q aS : Int} {r : Rows} (h : outB q r = true) (hs : ¬ IntKind.i64.wrap (q + (r.length : Nat)) < aS) : (aS - q).toNat ≤ r.length := by
  rw [wq h] at hs; omega
set_option maxHeartbeats 1000000 in
theorem gAckLaw : Gives Tryz.prog 8 [boxS, letS, letS] (fun _ => .bool true) := by
  refine GivesIf.all (fn_gives Q5 (by kernel_rfl) (fun ρ h => ctX1_ok (Sees.of h 230)) (by kernel_rfl) trLawAck_is trLawAck_low (by decide) (fun W vals ds hr _ => ?_))
  have hlen := (rAt_wf (rep_args hr) (j := 1) rfl).1
  simp only [trLawAck, TT.sat_ret, TT.sat_ite, TT.sat_ob, TT.sat_next, TT.sat_stuck, put_i, put_b, put_d, put_fi, put_fb, put_fd, Ob.ok, B.ev, E.ev, X.ev, AL.ev, cmp_t, cmp_f, arEv, V.plain, V2.plain, S.plain, S0.plain, V.val, V2.val, S.val, S0.val, bV, iV, List.all_cons, List.all_nil, Bool.and_true, Bool.and_self, envOf_i, envOf_b, envOf_d, List.map_cons, List.map_nil, true_and, Bool.not_eq_true', Bool.not_eq_false', Bool.not_not, Bool.and_eq_true, and_f, cell_lg, cell_lb, cell_lr, cmpP, val_i, val_b, val_d, aget, Nat.reduceBEq, beq_self_eq_true, Bool.false_eq_true, if_true, if_false, Nat.reduceLT, Nat.reduceSub, Nat.sub_self, Nat.lt_irrefl]
  clear hr
  have eA : [D.i (iAt ds 2), D.i (iAt ds 3), D.i (iAt ds 4), D.b (bAt ds 5), D.i (iAt ds 6), D.i (iAt ds 7), D.i (iAt ds 8), D.i (iAt ds 9), D.i (iAt ds 10), D.i (iAt ds 11), D.l (rAt ds 12)] = aOf ds 2 := rfl
  have eB : [D.i (iAt ds 13), D.i (iAt ds 14), D.i (iAt ds 15), D.b (bAt ds 16), D.i (iAt ds 17), D.i (iAt ds 18), D.i (iAt ds 19), D.i (iAt ds 20), D.i (iAt ds 21), D.i (iAt ds 22), D.l (rAt ds 23)] = aOf ds 13 := rfl
  have gA := fun h : ackL (aOf ds 2) = true => ack_aOf h
  have gB := fun h : ackL (aOf ds 13) = true => ack_aOf h
  simp only [Nat.reduceAdd] at gA gB
  generalize aOf ds 2 = A at *
  generalize aOf ds 13 = C at *
  generalize e2 : iAt ds 2 = aF at *
  generalize e3 : iAt ds 3 = aT at *
  generalize e4 : iAt ds 4 = aS at *
  generalize e13 : iAt ds 13 = cF at *
  generalize e14 : iAt ds 14 = cT at *
  generalize e15 : iAt ds 15 = cS at *
  generalize e0 : iAt ds 0 = q at *
  generalize er : rAt ds 1 = r at *
  refine ⟨fun _ => trivial, fun h8 => ⟨fun _ => trivial, fun _ => ⟨fun _ => trivial, fun _ => ?_⟩⟩⟩
  refine TT.sat_join (fun u => u.b 3 = false → outB q r = true ∧ ackL A = true ∧ oursB r aT aF = true) (fun u hu => ?_) (fun u hu hU => ?_)
  · simp only [TT.sat_ret, TT.sat_ite, TT.sat_ob, TT.sat_next, TT.sat_stuck, put_i, put_b, put_d, put_fi, put_fb, put_fd, Ob.ok, B.ev, E.ev, X.ev, AL.ev, cmp_t, cmp_f, arEv, V.plain, V2.plain, S.plain, S0.plain, V.val, V2.val, S.val, S0.val, bV, iV, List.all_cons, List.all_nil, Bool.and_true, Bool.and_self, envOf_i, envOf_b, envOf_d, List.map_cons, List.map_nil, true_and, Bool.not_eq_true', Bool.not_eq_false', Bool.not_not, Bool.and_eq_true, and_f, cell_lg, cell_lb, cell_lr, cmpP, val_i, val_b, val_d, aget, Nat.reduceBEq, beq_self_eq_true, Bool.false_eq_true, if_true, if_false, Nat.reduceLT, Nat.reduceSub, Nat.sub_self, Nat.lt_irrefl, hu, Q5b210, Q5b200, Q5b201, out_two, ours_three, er, e0, e2, e3, e4, e13, e14, e15, eA, eB]
    exact ⟨fun _ h => (by cases h), fun o => ⟨fun _ h => (by cases h), fun a h => ⟨o, a, h⟩⟩⟩
  simp only [TT.sat_ret, TT.sat_ite, TT.sat_ob, TT.sat_next, TT.sat_stuck, put_i, put_b, put_d, put_fi, put_fb, put_fd, Ob.ok, B.ev, E.ev, X.ev, AL.ev, cmp_t, cmp_f, arEv, V.plain, V2.plain, S.plain, S0.plain, V.val, V2.val, S.val, S0.val, bV, iV, List.all_cons, List.all_nil, Bool.and_true, Bool.and_self, envOf_i, envOf_b, envOf_d, List.map_cons, List.map_nil, true_and, Bool.not_eq_true', Bool.not_eq_false', Bool.not_not, Bool.and_eq_true, and_f, cell_lg, cell_lb, cell_lr, cmpP, val_i, val_b, val_d, aget, Nat.reduceBEq, beq_self_eq_true, Bool.false_eq_true, if_true, if_false, Nat.reduceLT, Nat.reduceSub, Nat.sub_self, Nat.lt_irrefl, hu, e4, e0, er]
  refine ⟨fun _ => ?_, fun h => ⟨fun _ => ?_, fun hs => ?_⟩⟩
  · refine TT.sat_join (fun u => u.b 3 = false → outB q r = true ∧ ackL C = true ∧ oursB r cT cF = true) (fun u hu => ?_) (fun u hu hU => ?_)
    · simp only [TT.sat_ret, TT.sat_ite, TT.sat_ob, TT.sat_next, TT.sat_stuck, put_i, put_b, put_d, put_fi, put_fb, put_fd, Ob.ok, B.ev, E.ev, X.ev, AL.ev, cmp_t, cmp_f, arEv, V.plain, V2.plain, S.plain, S0.plain, V.val, V2.val, S.val, S0.val, bV, iV, List.all_cons, List.all_nil, Bool.and_true, Bool.and_self, envOf_i, envOf_b, envOf_d, List.map_cons, List.map_nil, true_and, Bool.not_eq_true', Bool.not_eq_false', Bool.not_not, Bool.and_eq_true, and_f, cell_lg, cell_lb, cell_lr, cmpP, val_i, val_b, val_d, aget, Nat.reduceBEq, beq_self_eq_true, Bool.false_eq_true, if_true, if_false, Nat.reduceLT, Nat.reduceSub, Nat.sub_self, Nat.lt_irrefl, hu, Q5b210, Q5b200, Q5b201, out_two, ours_three, er, e0, e2, e3, e4, e13, e14, e15, eA, eB]
      exact ⟨fun _ h => (by cases h), fun o => ⟨fun _ h => (by cases h), fun a h => ⟨o, a, h⟩⟩⟩
    · simp only [TT.sat_ret, TT.sat_ite, TT.sat_ob, TT.sat_next, TT.sat_stuck, put_i, put_b, put_d, put_fi, put_fb, put_fd, Ob.ok, B.ev, E.ev, X.ev, AL.ev, cmp_t, cmp_f, arEv, V.plain, V2.plain, S.plain, S0.plain, V.val, V2.val, S.val, S0.val, bV, iV, List.all_cons, List.all_nil, Bool.and_true, Bool.and_self, envOf_i, envOf_b, envOf_d, List.map_cons, List.map_nil, true_and, Bool.not_eq_true', Bool.not_eq_false', Bool.not_not, Bool.and_eq_true, and_f, cell_lg, cell_lb, cell_lr, cmpP, val_i, val_b, val_d, aget, Nat.reduceBEq, beq_self_eq_true, Bool.false_eq_true, if_true, if_false, Nat.reduceLT, Nat.reduceSub, Nat.sub_self, Nat.lt_irrefl, hu, er, e0, e15]
      refine ⟨fun _ => trivial, fun h => ⟨fun _ => trivial, fun hs => ?_⟩⟩
      obtain ⟨o, a, _⟩ := hU h
      have gb := gB a
      have hk := kle o hs
      rw [wk o gb, subR_end, List.length_drop]
      exact ⟨by omega, by omega, by omega, trivial⟩
  · refine TT.sat_join (fun u => u.b 3 = false → outB q r = true ∧ ackL C = true ∧ oursB r cT cF = true) (fun u hu => ?_) (fun u hu hU => ?_)
    · simp only [TT.sat_ret, TT.sat_ite, TT.sat_ob, TT.sat_next, TT.sat_stuck, put_i, put_b, put_d, put_fi, put_fb, put_fd, Ob.ok, B.ev, E.ev, X.ev, AL.ev, cmp_t, cmp_f, arEv, V.plain, V2.plain, S.plain, S0.plain, V.val, V2.val, S.val, S0.val, bV, iV, List.all_cons, List.all_nil, Bool.and_true, Bool.and_self, envOf_i, envOf_b, envOf_d, List.map_cons, List.map_nil, true_and, Bool.not_eq_true', Bool.not_eq_false', Bool.not_not, Bool.and_eq_true, and_f, cell_lg, cell_lb, cell_lr, cmpP, val_i, val_b, val_d, aget, Nat.reduceBEq, beq_self_eq_true, Bool.false_eq_true, if_true, if_false, Nat.reduceLT, Nat.reduceSub, Nat.sub_self, Nat.lt_irrefl, hu, Q5b210, Q5b200, Q5b201, out_two, ours_three, er, e0, e2, e3, e4, e13, e14, e15, eA, eB]
      exact ⟨fun _ h => (by cases h), fun o => ⟨fun _ h => (by cases h), fun a h => ⟨o, a, h⟩⟩⟩
    · simp only [TT.sat_ret, TT.sat_ite, TT.sat_ob, TT.sat_next, TT.sat_stuck, put_i, put_b, put_d, put_fi, put_fb, put_fd, Ob.ok, B.ev, E.ev, X.ev, AL.ev, cmp_t, cmp_f, arEv, V.plain, V2.plain, S.plain, S0.plain, V.val, V2.val, S.val, S0.val, bV, iV, List.all_cons, List.all_nil, Bool.and_true, Bool.and_self, envOf_i, envOf_b, envOf_d, List.map_cons, List.map_nil, true_and, Bool.not_eq_true', Bool.not_eq_false', Bool.not_not, Bool.and_eq_true, and_f, cell_lg, cell_lb, cell_lr, cmpP, val_i, val_b, val_d, aget, Nat.reduceBEq, beq_self_eq_true, Bool.false_eq_true, if_true, if_false, Nat.reduceLT, Nat.reduceSub, Nat.sub_self, Nat.lt_irrefl, hu, er, e0, e15]
      refine ⟨fun _ => trivial, fun h => ⟨fun _ => trivial, fun hs => ?_⟩⟩
      obtain ⟨o, a, _⟩ := hU h
      have gb := gB a
      have hk := kle o hs
      rw [wk o gb, subR_end, List.length_drop]
      exact ⟨by omega, by omega, by omega, trivial⟩
  obtain ⟨o, a, oa⟩ := hU h
  have ga := gA a
  have hk := kle o hs
  rw [wk o ga, subR_end, List.length_drop]
  refine ⟨by omega, by omega, by omega, ?_⟩
  refine TT.sat_join (fun u => u.b 3 = false → outB q r = true ∧ ackL C = true ∧ oursB r cT cF = true) (fun u hu => ?_) (fun u hu hU => ?_)
  · simp only [TT.sat_ret, TT.sat_ite, TT.sat_ob, TT.sat_next, TT.sat_stuck, put_i, put_b, put_d, put_fi, put_fb, put_fd, Ob.ok, B.ev, E.ev, X.ev, AL.ev, cmp_t, cmp_f, arEv, V.plain, V2.plain, S.plain, S0.plain, V.val, V2.val, S.val, S0.val, bV, iV, List.all_cons, List.all_nil, Bool.and_true, Bool.and_self, envOf_i, envOf_b, envOf_d, List.map_cons, List.map_nil, true_and, Bool.not_eq_true', Bool.not_eq_false', Bool.not_not, Bool.and_eq_true, and_f, cell_lg, cell_lb, cell_lr, cmpP, val_i, val_b, val_d, aget, Nat.reduceBEq, beq_self_eq_true, Bool.false_eq_true, if_true, if_false, Nat.reduceLT, Nat.reduceSub, Nat.sub_self, Nat.lt_irrefl, hu, Q5b210, Q5b200, Q5b201, out_two, ours_three, er, e0, e2, e3, e4, e13, e14, e15, eA, eB]
    exact ⟨fun _ h => (by cases h), fun o => ⟨fun _ h => (by cases h), fun a h => ⟨o, a, h⟩⟩⟩
  simp only [TT.sat_ret, TT.sat_ite, TT.sat_ob, TT.sat_next, TT.sat_stuck, put_i, put_b, put_d, put_fi, put_fb, put_fd, Ob.ok, B.ev, E.ev, X.ev, AL.ev, cmp_t, cmp_f, arEv, V.plain, V2.plain, S.plain, S0.plain, V.val, V2.val, S.val, S0.val, bV, iV, List.all_cons, List.all_nil, Bool.and_true, Bool.and_self, envOf_i, envOf_b, envOf_d, List.map_cons, List.map_nil, true_and, Bool.not_eq_true', Bool.not_eq_false', Bool.not_not, Bool.and_eq_true, and_f, cell_lg, cell_lb, cell_lr, cmpP, val_i, val_b, val_d, aget, Nat.reduceBEq, beq_self_eq_true, Bool.false_eq_true, if_true, if_false, Nat.reduceLT, Nat.reduceSub, Nat.sub_self, Nat.lt_irrefl, hu, er, e0, e15]
  refine ⟨fun _ => trivial, fun h => ⟨fun _ => trivial, fun hs' => ?_⟩⟩
  obtain ⟨_, c, oc⟩ := hU h
  have gc := gB c
  have hl := kle o hs'
  rw [wk o gc, subR_end, List.length_drop]
  refine ⟨by omega, by omega, by omega, ?_⟩
  have o1 := out_drop o hk
  have o2 := out_drop o hl
  have a1 := ours_drop oa (aS - q).toNat
  have a2 := ours_drop oa (cS - q).toNat
  have c1 := ours_drop oc (aS - q).toNat
  have f1 := wk o ga
  have f2 := wk o gc
  have f3 := wqk o hk
  have f4 := wqk o hl
  have l1 : (r.drop (aS - q).toNat).length = r.length - (aS - q).toNat := List.length_drop
  have l2 : (r.drop (cS - q).toNat).length = r.length - (cS - q).toNat := List.length_drop
  have hA : aS ≤ q + r.length := by have := wq o; omega
  have hC : cS ≤ q + r.length := by have := wq o; omega
  have hK : q + ((aS - q).toNat : Nat) = max q aS := by omega
  have hL : q + ((cS - q).toNat : Nat) = max q cS := by omega
  have n1 := wq o1
  have n2 := wq o2
  have m1 := wk o1 gc
  have m2 := wk o2 ga
  have m3 := wk o1 ga
  refine TT.sat_join (fun u => u.b 3 = false) (fun u hu => ?_) (fun u hu hU => ?_)
  · simp only [TT.sat_ret, TT.sat_ite, TT.sat_ob, TT.sat_next, TT.sat_stuck, put_i, put_b, put_d, put_fi, put_fb, put_fd, Ob.ok, B.ev, E.ev, X.ev, AL.ev, cmp_t, cmp_f, arEv, V.plain, V2.plain, S.plain, S0.plain, V.val, V2.val, S.val, S0.val, bV, iV, List.all_cons, List.all_nil, Bool.and_true, Bool.and_self, envOf_i, envOf_b, envOf_d, List.map_cons, List.map_nil, true_and, Bool.not_eq_true', Bool.not_eq_false', Bool.not_not, Bool.and_eq_true, and_f, cell_lg, cell_lb, cell_lr, cmpP, val_i, val_b, val_d, aget, Nat.reduceBEq, beq_self_eq_true, Bool.false_eq_true, if_true, if_false, Nat.reduceLT, Nat.reduceSub, Nat.sub_self, Nat.lt_irrefl, hu, Q5b210, Q5b200, Q5b201, out_two, ours_three, er, e0, e2, e3, e4, e13, e14, e15, eA, eB, f1, f2, f3, f4, subR_end, Int.toNat_natCast, o1, o2, a, c, a1, a2, c1]
    exact ⟨fun h => (by cases h), fun _ => ⟨fun h => (by cases h), fun _ => trivial⟩⟩
  simp only [TT.sat_ret, TT.sat_ite, TT.sat_ob, TT.sat_next, TT.sat_stuck, put_i, put_b, put_d, put_fi, put_fb, put_fd, Ob.ok, B.ev, E.ev, X.ev, AL.ev, cmp_t, cmp_f, arEv, V.plain, V2.plain, S.plain, S0.plain, V.val, V2.val, S.val, S0.val, bV, iV, List.all_cons, List.all_nil, Bool.and_true, Bool.and_self, envOf_i, envOf_b, envOf_d, List.map_cons, List.map_nil, true_and, Bool.not_eq_true', Bool.not_eq_false', Bool.not_not, Bool.and_eq_true, and_f, cell_lg, cell_lb, cell_lr, cmpP, val_i, val_b, val_d, aget, Nat.reduceBEq, beq_self_eq_true, Bool.false_eq_true, if_true, if_false, Nat.reduceLT, Nat.reduceSub, Nat.sub_self, Nat.lt_irrefl, hu, hU, er, e0, e4, e15, f1, f2, f3, f4, subR_end, n1, n2, m1, m2, m3, Int.toNat_natCast]
  refine ⟨fun h => h, fun _ => ⟨fun h => (by omega), fun _ => ⟨by omega, by omega, by rw [List.length_drop]; omega, ?_⟩⟩⟩
  refine TT.sat_join (fun u => u.b 3 = false) (fun u hu => ?_) (fun u hu hU => ?_)
  · simp only [TT.sat_ret, TT.sat_ite, TT.sat_ob, TT.sat_next, TT.sat_stuck, put_i, put_b, put_d, put_fi, put_fb, put_fd, Ob.ok, B.ev, E.ev, X.ev, AL.ev, cmp_t, cmp_f, arEv, V.plain, V2.plain, S.plain, S0.plain, V.val, V2.val, S.val, S0.val, bV, iV, List.all_cons, List.all_nil, Bool.and_true, Bool.and_self, envOf_i, envOf_b, envOf_d, List.map_cons, List.map_nil, true_and, Bool.not_eq_true', Bool.not_eq_false', Bool.not_not, Bool.and_eq_true, and_f, cell_lg, cell_lb, cell_lr, cmpP, val_i, val_b, val_d, aget, Nat.reduceBEq, beq_self_eq_true, Bool.false_eq_true, if_true, if_false, Nat.reduceLT, Nat.reduceSub, Nat.sub_self, Nat.lt_irrefl, hu, Q5b210, Q5b200, Q5b201, out_two, ours_three, er, e0, e2, e3, e4, e13, e14, e15, eA, eB, f1, f2, f3, f4, subR_end, Int.toNat_natCast, o1, o2, a, c, a1, a2, c1]
    exact ⟨fun h => (by cases h), fun _ => ⟨fun h => (by cases h), fun _ => trivial⟩⟩
  simp only [TT.sat_ret, TT.sat_ite, TT.sat_ob, TT.sat_next, TT.sat_stuck, put_i, put_b, put_d, put_fi, put_fb, put_fd, Ob.ok, B.ev, E.ev, X.ev, AL.ev, cmp_t, cmp_f, arEv, V.plain, V2.plain, S.plain, S0.plain, V.val, V2.val, S.val, S0.val, bV, iV, List.all_cons, List.all_nil, Bool.and_true, Bool.and_self, envOf_i, envOf_b, envOf_d, List.map_cons, List.map_nil, true_and, Bool.not_eq_true', Bool.not_eq_false', Bool.not_not, Bool.and_eq_true, and_f, cell_lg, cell_lb, cell_lr, cmpP, val_i, val_b, val_d, aget, Nat.reduceBEq, beq_self_eq_true, Bool.false_eq_true, if_true, if_false, Nat.reduceLT, Nat.reduceSub, Nat.sub_self, Nat.lt_irrefl, hu, hU, er, e0, e4, e15, f1, f2, f3, f4, subR_end, n1, n2, m1, m2, m3, Int.toNat_natCast]
  refine ⟨fun h => h, fun _ => ⟨fun h => (by omega), fun _ => ⟨by omega, by omega, by rw [List.length_drop]; omega, ?_⟩⟩⟩
  refine TT.sat_join (fun u => u.b 3 = false) (fun u hu => ?_) (fun u hu hU => ?_)
  · simp only [TT.sat_ret, TT.sat_ite, TT.sat_ob, TT.sat_next, TT.sat_stuck, put_i, put_b, put_d, put_fi, put_fb, put_fd, Ob.ok, B.ev, E.ev, X.ev, AL.ev, cmp_t, cmp_f, arEv, V.plain, V2.plain, S.plain, S0.plain, V.val, V2.val, S.val, S0.val, bV, iV, List.all_cons, List.all_nil, Bool.and_true, Bool.and_self, envOf_i, envOf_b, envOf_d, List.map_cons, List.map_nil, true_and, Bool.not_eq_true', Bool.not_eq_false', Bool.not_not, Bool.and_eq_true, and_f, cell_lg, cell_lb, cell_lr, cmpP, val_i, val_b, val_d, aget, Nat.reduceBEq, beq_self_eq_true, Bool.false_eq_true, if_true, if_false, Nat.reduceLT, Nat.reduceSub, Nat.sub_self, Nat.lt_irrefl, hu, Q5b210, Q5b200, Q5b201, out_two, ours_three, er, e0, e2, e3, e4, e13, e14, e15, eA, eB, f1, f2, f3, f4, subR_end, Int.toNat_natCast, o1, o2, a, c, a1, a2, c1]
    exact ⟨fun h => (by cases h), fun _ => ⟨fun h => (by cases h), fun _ => trivial⟩⟩
  simp only [TT.sat_ret, TT.sat_ite, TT.sat_ob, TT.sat_next, TT.sat_stuck, put_i, put_b, put_d, put_fi, put_fb, put_fd, Ob.ok, B.ev, E.ev, X.ev, AL.ev, cmp_t, cmp_f, arEv, V.plain, V2.plain, S.plain, S0.plain, V.val, V2.val, S.val, S0.val, bV, iV, List.all_cons, List.all_nil, Bool.and_true, Bool.and_self, envOf_i, envOf_b, envOf_d, List.map_cons, List.map_nil, true_and, Bool.not_eq_true', Bool.not_eq_false', Bool.not_not, Bool.and_eq_true, and_f, cell_lg, cell_lb, cell_lr, cmpP, val_i, val_b, val_d, aget, Nat.reduceBEq, beq_self_eq_true, Bool.false_eq_true, if_true, if_false, Nat.reduceLT, Nat.reduceSub, Nat.sub_self, Nat.lt_irrefl, hu, hU, er, e0, e4, e15, f1, f2, f3, f4, subR_end, n1, n2, m1, m2, m3, Int.toNat_natCast]
  refine ⟨fun h => h, fun _ => ⟨fun h => (by omega), fun _ => ⟨by omega, by omega, by rw [List.length_drop]; omega, ?_⟩⟩⟩
  clear n1 n2 m1 m2 m3 f1 f2 f3 f4 o1 o2 a1 a2 c1 l1 l2 hK hL
  obtain ⟨⟨q0, q1, q2⟩, _, _⟩ := out_iff.1 o
  have e5 : IntKind.i64.wrap (q + ((aS - q).toNat : Nat) + ((cS - (q + ((aS - q).toNat : Nat))).toNat : Nat)) = max (max q aS) cS := by rw [wrap_in _ (by omega) (by omega)]; omega
  have e6 : IntKind.i64.wrap (q + ((cS - q).toNat : Nat) + ((aS - (q + ((cS - q).toNat : Nat))).toNat : Nat)) = max (max q aS) cS := by rw [wrap_in _ (by omega) (by omega)]; omega
  have e7 : IntKind.i64.wrap (q + ((aS - q).toNat : Nat) + ((aS - (q + ((aS - q).toNat : Nat))).toNat : Nat)) = q + ((aS - q).toNat : Nat) := by rw [wrap_in _ (by omega) (by omega)]; omega
  have d5 : (r.drop (aS - q).toNat).drop (cS - (q + ((aS - q).toNat : Nat))).toNat = r.drop (max (max q aS) cS - q).toNat := by rw [List.drop_drop]; congr 1; omega
  have d6 : (r.drop (cS - q).toNat).drop (aS - (q + ((cS - q).toNat : Nat))).toNat = r.drop (max (max q aS) cS - q).toNat := by rw [List.drop_drop]; congr 1; omega
  have d7 : (r.drop (aS - q).toNat).drop (aS - (q + ((aS - q).toNat : Nat))).toNat = r.drop (aS - q).toNat := by rw [List.drop_drop]; congr 1; omega
  have e8 : cmpEv .eql (IntKind.i64.wrap (max (max q aS) cS + ((r.drop (max (max q aS) cS - q).toNat).length : Nat))) (q + (r.length : Nat)) = true := by
    rw [eql_dec, decide_eq_true_eq, List.length_drop, wrap_in _ (by omega) (by omega)]; omega
  simp only [e5, e6, e7, d5, d6, d7, Q5b224, bx_four, rowsEqb_self, decide_true, Bool.and_self, wq o, e8]
  exact ⟨fun _ => ⟨fun _ => ⟨fun _ => trivial, fun h => absurd trivial h⟩, fun h => (by cases h)⟩, fun h => (by cases h)⟩
end Go.Proofs.YtbbjlleaofgddaaGreat
