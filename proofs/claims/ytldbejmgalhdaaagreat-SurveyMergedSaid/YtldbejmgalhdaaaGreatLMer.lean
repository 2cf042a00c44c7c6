/- LMer, merged: TYc, Yd9, Ye9. -/
import Derived.Test.YtldbejmgalhdaaaGreatLJoi
set_option linter.unusedSimpArgs false
set_option linter.unusedVariables false
/- Chapter 09: the tree of the law SurveyMerged. -/
namespace Go.Proofs.YtldbejmgalhdaaaGreat
open Go.RowKit
def trLawMer : TT OpR :=
(.ite (.cmp .leq (.len (.var 0)) (.lit 16))
 (.ite (.not (.cmp .leq (.len (.var 1)) (.lit 12)))
 (.ret ((.v (.one (.z (.bool (.lit true))))), [], 4))
 (.ite (.cmp .leq (.len (.var 2)) (.lit 16))
 (.ite (.not (.cmp .leq (.len (.var 3)) (.lit 12)))
 (.ret ((.v (.one (.z (.bool (.lit true))))), [], 5))
 (.ite (.cmp .leq (.len (.var 4)) (.lit 16))
 (.ite (.not (.cmp .leq (.len (.var 5)) (.lit 12)))
 (.ret ((.v (.one (.z (.bool (.lit true))))), [], 6))
 (.loop 0 13000 ⟨[], [(0, (.lit false))], []⟩
 (.ite (.var 13000)
 (.ite (.cmp .neq (.fn 210 (.x (.var 0) (.x (.var 1) (.x (.var 2) (.x (.var 3) .nil))))) (.lit 0))
 (.ite (.cmp .eql (.fn 210 (.x (.var 0) (.x (.var 1) (.x (.var 2) (.x (.var 3) .nil))))) (.fn 210 (.x (.var 2) (.x (.var 3) (.x (.var 0) (.x (.var 1) .nil))))))
 (.ite (.cmp .eql (.fn 210 (.x (.var 0) (.x (.var 1) (.x (.var 2) (.x (.var 3) .nil))))) (.lit 1))
 (.ret ((.v (.one (.z (.bool (.lit true))))), [], 16))
 (.ret ((.v (.one (.z (.bool (.cmp .eql (.fn 210 (.x (.var 0) (.x (.var 1) (.x (.var 2) (.x (.var 3) .nil))))) (.lit 18)))))), [], 16)))
 (.ret ((.v (.one (.z (.bool (.lit false))))), [], 16)))
 (.loop 1 20000 ⟨[], [(0, (.lit false))], []⟩
 (.ite (.var 20000)
 (.loop 2 21000 ⟨[(1, (.lit 0))], [(0, (.var 20001))], []⟩
 (.ite (.cmp .lss (.var 21001) (.len (.var 0)))
 (.ob (.tru (.cmp .leq (.lit 0) (.var 21001)))
 (.ob (.tru (.cmp .lss (.var 21001) (.len (.var 0))))
 (.ite (.var 21000)
 (.ite (.not (.fn 160 (.x (.fn 1 (.x (.fn 5 (.x (.var 0) (.x (.var 1) (.x (.var 2) (.x (.var 3) .nil))))) (.x (.fn 6 (.x (.var 0) (.x (.var 1) (.x (.var 2) (.x (.var 3) .nil))))) .nil))) (.i (.rd (.var 0) (.var 21001) 0) .nil))))
 (.next 2 ⟨[(1, (.ar .add .i64 (.var 21001) (.lit 1)))], [(0, (.lit true))], []⟩)
 (.next 2 ⟨[(1, (.ar .add .i64 (.var 21001) (.lit 1)))], [(0, (.fn 160 (.x (.fn 1 (.x (.var 0) (.x (.var 1) .nil))) (.i (.rd (.var 0) (.var 21001) 0) .nil))))], []⟩))
 (.next 2 ⟨[(1, (.ar .add .i64 (.var 21001) (.lit 1)))], [(0, (.lit false))], []⟩))))
 (.loop 3 23000 ⟨[(1, (.lit 0))], [(0, (.var 21000))], []⟩
 (.ite (.cmp .lss (.var 23001) (.len (.var 2)))
 (.ob (.tru (.cmp .leq (.lit 0) (.var 23001)))
 (.ob (.tru (.cmp .lss (.var 23001) (.len (.var 2))))
 (.ite (.var 23000)
 (.ite (.not (.fn 160 (.x (.fn 1 (.x (.fn 5 (.x (.var 0) (.x (.var 1) (.x (.var 2) (.x (.var 3) .nil))))) (.x (.fn 6 (.x (.var 0) (.x (.var 1) (.x (.var 2) (.x (.var 3) .nil))))) .nil))) (.i (.rd (.var 2) (.var 23001) 0) .nil))))
 (.next 3 ⟨[(1, (.ar .add .i64 (.var 23001) (.lit 1)))], [(0, (.lit true))], []⟩)
 (.next 3 ⟨[(1, (.ar .add .i64 (.var 23001) (.lit 1)))], [(0, (.fn 160 (.x (.fn 1 (.x (.var 2) (.x (.var 3) .nil))) (.i (.rd (.var 2) (.var 23001) 0) .nil))))], []⟩))
 (.next 3 ⟨[(1, (.ar .add .i64 (.var 23001) (.lit 1)))], [(0, (.lit false))], []⟩))))
 (.ite (.cmp .eql (.fn 210 (.x (.fn 5 (.x (.var 0) (.x (.var 1) (.x (.var 2) (.x (.var 3) .nil))))) (.x (.fn 6 (.x (.var 0) (.x (.var 1) (.x (.var 2) (.x (.var 3) .nil))))) (.x (.var 4) (.x (.var 5) .nil))))) (.lit 0))
 (.ite (.not (.fn 150 (.x (.fn 5 (.x (.var 0) (.x (.var 1) (.x (.var 2) (.x (.var 3) .nil))))) (.x (.fn 6 (.x (.var 0) (.x (.var 1) (.x (.var 2) (.x (.var 3) .nil))))) .nil))))
 (.stuck "not possible")
 (.ite (.not (.fn 150 (.x (.var 4) (.x (.var 5) .nil))))
 (.stuck "not possible")
 (.ob (.tru (.fn 136 (.x (.fn 5 (.x (.var 0) (.x (.var 1) (.x (.var 2) (.x (.var 3) .nil))))) .nil)))
 (.ob (.tru (.fn 136 (.x (.var 4) .nil)))
 (.ob (.tru (.cmp .leq (.plus (.len (.fn 5 (.x (.var 0) (.x (.var 1) (.x (.var 2) (.x (.var 3) .nil)))))) (.len (.var 4))) (.lit 1000)))
 (.ob (.tru (.cmp .leq (.len (.fn 6 (.x (.var 0) (.x (.var 1) (.x (.var 2) (.x (.var 3) .nil)))))) (.lit 1000000)))
 (.loop 4 30000 ⟨[(0, (.lit 0)), (1, (.lit 0)), (0, (.lit 0))], [], [(2, (.fn 6 (.x (.var 0) (.x (.var 1) (.x (.var 2) (.x (.var 3) .nil))))))]⟩
 (.ite (.cmp .lss (.var 30001) (.len (.var 5)))
 (.ob (.tru (.cmp .leq (.lit 0) (.var 30001)))
 (.ob (.tru (.cmp .lss (.var 30001) (.len (.var 5))))
 (.ob (.tru (.fn 136 (.x (.var 30002) .nil)))
 (.ite (.not (.fn 135 (.x (.var 30002) (.i (.rd (.var 5) (.var 30001) 0) .nil))))
 (.ob (.tru (.cmp .leq (.lit 0) (.fn 135 (.x (.var 30002) (.i (.rd (.var 5) (.var 30001) 0) .nil)))))
 (.ob (.tru (.cmp .leq (.fn 135 (.x (.var 30002) (.i (.rd (.var 5) (.var 30001) 0) .nil))) (.len (.var 30002))))
 (.ob (.tru (.cmp .lss (.len (.var 30002)) (.lit 1000000)))
 (.next 4 ⟨[(0, (.plus (.var 30000) (.lit 1))), (1, (.ar .add .i64 (.var 30001) (.lit 1))), (0, (.plus (.var 30000) (.lit 1)))], [], [(2, (.app (.app (.sub (.var 30002) (.lit 0) (.fn 135 (.x (.var 30002) (.i (.rd (.var 5) (.var 30001) 0) .nil)))) (.app (.row (.i (.rd (.var 5) (.var 30001) 0) (.i (.rd (.var 5) (.var 30001) 1) (.i (.rd (.var 5) (.var 30001) 2) (.i (.rd (.var 5) (.var 30001) 3) (.i (.rd (.var 5) (.var 30001) 4) (.x (.rd (.var 5) (.var 30001) 5) (.i (.rd (.var 5) (.var 30001) 6) (.i (.rd (.var 5) (.var 30001) 7) (.x (.rd (.var 5) (.var 30001) 8) .nil)))))))))) .nil)) (.sub (.var 30002) (.fn 135 (.x (.var 30002) (.i (.rd (.var 5) (.var 30001) 0) .nil))) (.len (.var 30002)))))]⟩))))
 (.ob (.tru (.cmp .leq (.lit 0) (.fn 135 (.x (.var 30002) (.i (.rd (.var 5) (.var 30001) 0) .nil)))))
 (.ob (.tru (.cmp .lss (.fn 135 (.x (.var 30002) (.i (.rd (.var 5) (.var 30001) 0) .nil))) (.len (.var 30002))))
 (.ite (.not (.fn 129 (.i (.rd (.var 30002) (.fn 135 (.x (.var 30002) (.i (.rd (.var 5) (.var 30001) 0) .nil))) 0) (.i (.rd (.var 30002) (.fn 135 (.x (.var 30002) (.i (.rd (.var 5) (.var 30001) 0) .nil))) 1) (.i (.rd (.var 30002) (.fn 135 (.x (.var 30002) (.i (.rd (.var 5) (.var 30001) 0) .nil))) 2) (.i (.rd (.var 30002) (.fn 135 (.x (.var 30002) (.i (.rd (.var 5) (.var 30001) 0) .nil))) 3) (.i (.rd (.var 30002) (.fn 135 (.x (.var 30002) (.i (.rd (.var 5) (.var 30001) 0) .nil))) 4) (.x (.rd (.var 30002) (.fn 135 (.x (.var 30002) (.i (.rd (.var 5) (.var 30001) 0) .nil))) 5) (.i (.rd (.var 30002) (.fn 135 (.x (.var 30002) (.i (.rd (.var 5) (.var 30001) 0) .nil))) 6) (.i (.rd (.var 30002) (.fn 135 (.x (.var 30002) (.i (.rd (.var 5) (.var 30001) 0) .nil))) 7) (.x (.rd (.var 30002) (.fn 135 (.x (.var 30002) (.i (.rd (.var 5) (.var 30001) 0) .nil))) 8) (.i (.rd (.var 5) (.var 30001) 0) (.i (.rd (.var 5) (.var 30001) 1) (.i (.rd (.var 5) (.var 30001) 2) (.i (.rd (.var 5) (.var 30001) 3) (.i (.rd (.var 5) (.var 30001) 4) (.x (.rd (.var 5) (.var 30001) 5) (.i (.rd (.var 5) (.var 30001) 6) (.i (.rd (.var 5) (.var 30001) 7) (.x (.rd (.var 5) (.var 30001) 8) .nil))))))))))))))))))))
 (.ite (.not (.fn 200 (.x (.fn 5 (.x (.var 0) (.x (.var 1) (.x (.var 2) (.x (.var 3) .nil))))) (.x (.var 4) .nil))))
 (.stuck "not possible")
 (.stuck "not possible"))
 (.next 4 ⟨[(0, (.var 30000)), (1, (.ar .add .i64 (.var 30001) (.lit 1))), (0, (.var 30000))], [], [(2, (.var 30002))]⟩))))))))
 (.ite (.not (.fn 200 (.x (.fn 5 (.x (.var 0) (.x (.var 1) (.x (.var 2) (.x (.var 3) .nil))))) (.x (.var 4) .nil))))
 (.stuck "not possible")
 (.ob (.tru (.fn 136 (.x (.var 5) .nil)))
 (.ite (.fn 201 (.x (.fn 5 (.x (.var 0) (.x (.var 1) (.x (.var 2) (.x (.var 3) .nil))))) (.x (.var 5) .nil)))
 (.stuck "not possible")
 (.ob (.tru (.fn 136 (.x (.fn 6 (.x (.var 0) (.x (.var 1) (.x (.var 2) (.x (.var 3) .nil))))) .nil)))
 (.ite (.fn 201 (.x (.var 4) (.x (.fn 6 (.x (.var 0) (.x (.var 1) (.x (.var 2) (.x (.var 3) .nil))))) .nil)))
 (.stuck "not possible")
 (.ite (.cmp .gtr (.ar .add .i64 (.len (.fn 4 (.x (.fn 5 (.x (.var 0) (.x (.var 1) (.x (.var 2) (.x (.var 3) .nil))))) (.x (.var 4) .nil)))) (.len (.var 30002))) (.lit 300))
 (.stuck "not possible")
 (.ite (.cmp .neq (.fn 210 (.x (.var 2) (.x (.var 3) (.x (.var 4) (.x (.var 5) .nil))))) (.lit 0))
 (.ite (.var 23000)
 (.ret ((.v (.one (.z (.bool (.lit false))))), [], 37))
 (.ret ((.v (.one (.z (.bool (.lit false))))), [], 37)))
 (.ite (.cmp .eql (.fn 210 (.x (.var 0) (.x (.var 1) (.x (.fn 5 (.x (.var 2) (.x (.var 3) (.x (.var 4) (.x (.var 5) .nil))))) (.x (.fn 6 (.x (.var 2) (.x (.var 3) (.x (.var 4) (.x (.var 5) .nil))))) .nil))))) (.lit 0))
 (.ite (.not (.fn 150 (.x (.var 0) (.x (.var 1) .nil))))
 (.stuck "not possible")
 (.ite (.not (.fn 150 (.x (.fn 5 (.x (.var 2) (.x (.var 3) (.x (.var 4) (.x (.var 5) .nil))))) (.x (.fn 6 (.x (.var 2) (.x (.var 3) (.x (.var 4) (.x (.var 5) .nil))))) .nil))))
 (.stuck "not possible")
 (.ob (.tru (.fn 136 (.x (.var 0) .nil)))
 (.ob (.tru (.fn 136 (.x (.fn 5 (.x (.var 2) (.x (.var 3) (.x (.var 4) (.x (.var 5) .nil))))) .nil)))
 (.ob (.tru (.cmp .leq (.plus (.len (.var 0)) (.len (.fn 5 (.x (.var 2) (.x (.var 3) (.x (.var 4) (.x (.var 5) .nil))))))) (.lit 1000)))
 (.ob (.tru (.cmp .leq (.len (.var 1)) (.lit 1000000)))
 (.loop 5 43000 ⟨[(0, (.lit 0)), (1, (.lit 0)), (0, (.lit 0))], [], [(2, (.var 1))]⟩
 (.ite (.cmp .lss (.var 43001) (.len (.fn 6 (.x (.var 2) (.x (.var 3) (.x (.var 4) (.x (.var 5) .nil)))))))
 (.ob (.tru (.cmp .leq (.lit 0) (.var 43001)))
 (.ob (.tru (.cmp .lss (.var 43001) (.len (.fn 6 (.x (.var 2) (.x (.var 3) (.x (.var 4) (.x (.var 5) .nil))))))))
 (.ob (.tru (.fn 136 (.x (.var 43002) .nil)))
 (.ite (.not (.fn 135 (.x (.var 43002) (.i (.rd (.fn 6 (.x (.var 2) (.x (.var 3) (.x (.var 4) (.x (.var 5) .nil))))) (.var 43001) 0) .nil))))
 (.ob (.tru (.cmp .leq (.lit 0) (.fn 135 (.x (.var 43002) (.i (.rd (.fn 6 (.x (.var 2) (.x (.var 3) (.x (.var 4) (.x (.var 5) .nil))))) (.var 43001) 0) .nil)))))
 (.ob (.tru (.cmp .leq (.fn 135 (.x (.var 43002) (.i (.rd (.fn 6 (.x (.var 2) (.x (.var 3) (.x (.var 4) (.x (.var 5) .nil))))) (.var 43001) 0) .nil))) (.len (.var 43002))))
 (.ob (.tru (.cmp .lss (.len (.var 43002)) (.lit 1000000)))
 (.next 5 ⟨[(0, (.plus (.var 43000) (.lit 1))), (1, (.ar .add .i64 (.var 43001) (.lit 1))), (0, (.plus (.var 43000) (.lit 1)))], [], [(2, (.app (.app (.sub (.var 43002) (.lit 0) (.fn 135 (.x (.var 43002) (.i (.rd (.fn 6 (.x (.var 2) (.x (.var 3) (.x (.var 4) (.x (.var 5) .nil))))) (.var 43001) 0) .nil)))) (.app (.row (.i (.rd (.fn 6 (.x (.var 2) (.x (.var 3) (.x (.var 4) (.x (.var 5) .nil))))) (.var 43001) 0) (.i (.rd (.fn 6 (.x (.var 2) (.x (.var 3) (.x (.var 4) (.x (.var 5) .nil))))) (.var 43001) 1) (.i (.rd (.fn 6 (.x (.var 2) (.x (.var 3) (.x (.var 4) (.x (.var 5) .nil))))) (.var 43001) 2) (.i (.rd (.fn 6 (.x (.var 2) (.x (.var 3) (.x (.var 4) (.x (.var 5) .nil))))) (.var 43001) 3) (.i (.rd (.fn 6 (.x (.var 2) (.x (.var 3) (.x (.var 4) (.x (.var 5) .nil))))) (.var 43001) 4) (.x (.rd (.fn 6 (.x (.var 2) (.x (.var 3) (.x (.var 4) (.x (.var 5) .nil))))) (.var 43001) 5) (.i (.rd (.fn 6 (.x (.var 2) (.x (.var 3) (.x (.var 4) (.x (.var 5) .nil))))) (.var 43001) 6) (.i (.rd (.fn 6 (.x (.var 2) (.x (.var 3) (.x (.var 4) (.x (.var 5) .nil))))) (.var 43001) 7) (.x (.rd (.fn 6 (.x (.var 2) (.x (.var 3) (.x (.var 4) (.x (.var 5) .nil))))) (.var 43001) 8) .nil)))))))))) .nil)) (.sub (.var 43002) (.fn 135 (.x (.var 43002) (.i (.rd (.fn 6 (.x (.var 2) (.x (.var 3) (.x (.var 4) (.x (.var 5) .nil))))) (.var 43001) 0) .nil))) (.len (.var 43002)))))]⟩))))
 (.ob (.tru (.cmp .leq (.lit 0) (.fn 135 (.x (.var 43002) (.i (.rd (.fn 6 (.x (.var 2) (.x (.var 3) (.x (.var 4) (.x (.var 5) .nil))))) (.var 43001) 0) .nil)))))
 (.ob (.tru (.cmp .lss (.fn 135 (.x (.var 43002) (.i (.rd (.fn 6 (.x (.var 2) (.x (.var 3) (.x (.var 4) (.x (.var 5) .nil))))) (.var 43001) 0) .nil))) (.len (.var 43002))))
 (.ite (.not (.fn 129 (.i (.rd (.var 43002) (.fn 135 (.x (.var 43002) (.i (.rd (.fn 6 (.x (.var 2) (.x (.var 3) (.x (.var 4) (.x (.var 5) .nil))))) (.var 43001) 0) .nil))) 0) (.i (.rd (.var 43002) (.fn 135 (.x (.var 43002) (.i (.rd (.fn 6 (.x (.var 2) (.x (.var 3) (.x (.var 4) (.x (.var 5) .nil))))) (.var 43001) 0) .nil))) 1) (.i (.rd (.var 43002) (.fn 135 (.x (.var 43002) (.i (.rd (.fn 6 (.x (.var 2) (.x (.var 3) (.x (.var 4) (.x (.var 5) .nil))))) (.var 43001) 0) .nil))) 2) (.i (.rd (.var 43002) (.fn 135 (.x (.var 43002) (.i (.rd (.fn 6 (.x (.var 2) (.x (.var 3) (.x (.var 4) (.x (.var 5) .nil))))) (.var 43001) 0) .nil))) 3) (.i (.rd (.var 43002) (.fn 135 (.x (.var 43002) (.i (.rd (.fn 6 (.x (.var 2) (.x (.var 3) (.x (.var 4) (.x (.var 5) .nil))))) (.var 43001) 0) .nil))) 4) (.x (.rd (.var 43002) (.fn 135 (.x (.var 43002) (.i (.rd (.fn 6 (.x (.var 2) (.x (.var 3) (.x (.var 4) (.x (.var 5) .nil))))) (.var 43001) 0) .nil))) 5) (.i (.rd (.var 43002) (.fn 135 (.x (.var 43002) (.i (.rd (.fn 6 (.x (.var 2) (.x (.var 3) (.x (.var 4) (.x (.var 5) .nil))))) (.var 43001) 0) .nil))) 6) (.i (.rd (.var 43002) (.fn 135 (.x (.var 43002) (.i (.rd (.fn 6 (.x (.var 2) (.x (.var 3) (.x (.var 4) (.x (.var 5) .nil))))) (.var 43001) 0) .nil))) 7) (.x (.rd (.var 43002) (.fn 135 (.x (.var 43002) (.i (.rd (.fn 6 (.x (.var 2) (.x (.var 3) (.x (.var 4) (.x (.var 5) .nil))))) (.var 43001) 0) .nil))) 8) (.i (.rd (.fn 6 (.x (.var 2) (.x (.var 3) (.x (.var 4) (.x (.var 5) .nil))))) (.var 43001) 0) (.i (.rd (.fn 6 (.x (.var 2) (.x (.var 3) (.x (.var 4) (.x (.var 5) .nil))))) (.var 43001) 1) (.i (.rd (.fn 6 (.x (.var 2) (.x (.var 3) (.x (.var 4) (.x (.var 5) .nil))))) (.var 43001) 2) (.i (.rd (.fn 6 (.x (.var 2) (.x (.var 3) (.x (.var 4) (.x (.var 5) .nil))))) (.var 43001) 3) (.i (.rd (.fn 6 (.x (.var 2) (.x (.var 3) (.x (.var 4) (.x (.var 5) .nil))))) (.var 43001) 4) (.x (.rd (.fn 6 (.x (.var 2) (.x (.var 3) (.x (.var 4) (.x (.var 5) .nil))))) (.var 43001) 5) (.i (.rd (.fn 6 (.x (.var 2) (.x (.var 3) (.x (.var 4) (.x (.var 5) .nil))))) (.var 43001) 6) (.i (.rd (.fn 6 (.x (.var 2) (.x (.var 3) (.x (.var 4) (.x (.var 5) .nil))))) (.var 43001) 7) (.x (.rd (.fn 6 (.x (.var 2) (.x (.var 3) (.x (.var 4) (.x (.var 5) .nil))))) (.var 43001) 8) .nil))))))))))))))))))))
 (.ite (.not (.fn 200 (.x (.var 0) (.x (.fn 5 (.x (.var 2) (.x (.var 3) (.x (.var 4) (.x (.var 5) .nil))))) .nil))))
 (.stuck "not possible")
 (.stuck "not possible"))
 (.next 5 ⟨[(0, (.var 43000)), (1, (.ar .add .i64 (.var 43001) (.lit 1))), (0, (.var 43000))], [], [(2, (.var 43002))]⟩))))))))
 (.ite (.not (.fn 200 (.x (.var 0) (.x (.fn 5 (.x (.var 2) (.x (.var 3) (.x (.var 4) (.x (.var 5) .nil))))) .nil))))
 (.stuck "not possible")
 (.ob (.tru (.fn 136 (.x (.fn 6 (.x (.var 2) (.x (.var 3) (.x (.var 4) (.x (.var 5) .nil))))) .nil)))
 (.ite (.fn 201 (.x (.var 0) (.x (.fn 6 (.x (.var 2) (.x (.var 3) (.x (.var 4) (.x (.var 5) .nil))))) .nil)))
 (.stuck "not possible")
 (.ob (.tru (.fn 136 (.x (.var 1) .nil)))
 (.ite (.fn 201 (.x (.fn 5 (.x (.var 2) (.x (.var 3) (.x (.var 4) (.x (.var 5) .nil))))) (.x (.var 1) .nil)))
 (.stuck "not possible")
 (.ite (.cmp .gtr (.ar .add .i64 (.len (.fn 4 (.x (.var 0) (.x (.fn 5 (.x (.var 2) (.x (.var 3) (.x (.var 4) (.x (.var 5) .nil))))) .nil)))) (.len (.var 43002))) (.lit 300))
 (.stuck "not possible")
 (.ite (.var 23000)
 (.ob (.tru (.fn 210 (.x (.fn 4 (.x (.fn 5 (.x (.var 0) (.x (.var 1) (.x (.var 2) (.x (.var 3) .nil))))) (.x (.var 4) .nil))) (.x (.var 30002) (.x (.fn 4 (.x (.var 0) (.x (.fn 5 (.x (.var 2) (.x (.var 3) (.x (.var 4) (.x (.var 5) .nil))))) .nil))) (.x (.var 43002) .nil))))))
 (.ret ((.v (.one (.z (.bool (.lit true))))), [], 46)))
 (.ret ((.v (.one (.z (.bool (.lit false))))), [], 46)))))))))))))))))
 (.ite (.var 23000)
 (.ite (.cmp .eql (.lit 0) (.fn 210 (.x (.var 0) (.x (.var 1) (.x (.fn 5 (.x (.var 2) (.x (.var 3) (.x (.var 4) (.x (.var 5) .nil))))) (.x (.fn 6 (.x (.var 2) (.x (.var 3) (.x (.var 4) (.x (.var 5) .nil))))) .nil))))))
 (.ob (.tru (.fn 210 (.x (.fn 4 (.x (.fn 5 (.x (.var 0) (.x (.var 1) (.x (.var 2) (.x (.var 3) .nil))))) (.x (.var 4) .nil))) (.x (.var 30002) (.x .nil (.x .nil .nil))))))
 (.ret ((.v (.one (.z (.bool (.lit true))))), [], 37)))
 (.ret ((.v (.one (.z (.bool (.lit false))))), [], 37)))
 (.ret ((.v (.one (.z (.bool (.lit false))))), [], 37)))))))))))))))))))
 (.ite (.cmp .neq (.fn 210 (.x (.var 2) (.x (.var 3) (.x (.var 4) (.x (.var 5) .nil))))) (.lit 0))
 (.ite (.var 23000)
 (.ret ((.v (.one (.z (.bool (.cmp .neq (.fn 210 (.x (.fn 5 (.x (.var 0) (.x (.var 1) (.x (.var 2) (.x (.var 3) .nil))))) (.x (.fn 6 (.x (.var 0) (.x (.var 1) (.x (.var 2) (.x (.var 3) .nil))))) (.x (.var 4) (.x (.var 5) .nil))))) (.lit 0)))))), [], 28))
 (.ret ((.v (.one (.z (.bool (.lit false))))), [], 28)))
 (.ite (.cmp .eql (.fn 210 (.x (.var 0) (.x (.var 1) (.x (.fn 5 (.x (.var 2) (.x (.var 3) (.x (.var 4) (.x (.var 5) .nil))))) (.x (.fn 6 (.x (.var 2) (.x (.var 3) (.x (.var 4) (.x (.var 5) .nil))))) .nil))))) (.lit 0))
 (.ite (.not (.fn 150 (.x (.var 0) (.x (.var 1) .nil))))
 (.stuck "not possible")
 (.ite (.not (.fn 150 (.x (.fn 5 (.x (.var 2) (.x (.var 3) (.x (.var 4) (.x (.var 5) .nil))))) (.x (.fn 6 (.x (.var 2) (.x (.var 3) (.x (.var 4) (.x (.var 5) .nil))))) .nil))))
 (.stuck "not possible")
 (.ob (.tru (.fn 136 (.x (.var 0) .nil)))
 (.ob (.tru (.fn 136 (.x (.fn 5 (.x (.var 2) (.x (.var 3) (.x (.var 4) (.x (.var 5) .nil))))) .nil)))
 (.ob (.tru (.cmp .leq (.plus (.len (.var 0)) (.len (.fn 5 (.x (.var 2) (.x (.var 3) (.x (.var 4) (.x (.var 5) .nil))))))) (.lit 1000)))
 (.ob (.tru (.cmp .leq (.len (.var 1)) (.lit 1000000)))
 (.loop 4 34000 ⟨[(0, (.lit 0)), (1, (.lit 0)), (0, (.lit 0))], [], [(2, (.var 1))]⟩
 (.ite (.cmp .lss (.var 34001) (.len (.fn 6 (.x (.var 2) (.x (.var 3) (.x (.var 4) (.x (.var 5) .nil)))))))
 (.ob (.tru (.cmp .leq (.lit 0) (.var 34001)))
 (.ob (.tru (.cmp .lss (.var 34001) (.len (.fn 6 (.x (.var 2) (.x (.var 3) (.x (.var 4) (.x (.var 5) .nil))))))))
 (.ob (.tru (.fn 136 (.x (.var 34002) .nil)))
 (.ite (.not (.fn 135 (.x (.var 34002) (.i (.rd (.fn 6 (.x (.var 2) (.x (.var 3) (.x (.var 4) (.x (.var 5) .nil))))) (.var 34001) 0) .nil))))
 (.ob (.tru (.cmp .leq (.lit 0) (.fn 135 (.x (.var 34002) (.i (.rd (.fn 6 (.x (.var 2) (.x (.var 3) (.x (.var 4) (.x (.var 5) .nil))))) (.var 34001) 0) .nil)))))
 (.ob (.tru (.cmp .leq (.fn 135 (.x (.var 34002) (.i (.rd (.fn 6 (.x (.var 2) (.x (.var 3) (.x (.var 4) (.x (.var 5) .nil))))) (.var 34001) 0) .nil))) (.len (.var 34002))))
 (.ob (.tru (.cmp .lss (.len (.var 34002)) (.lit 1000000)))
 (.next 4 ⟨[(0, (.plus (.var 34000) (.lit 1))), (1, (.ar .add .i64 (.var 34001) (.lit 1))), (0, (.plus (.var 34000) (.lit 1)))], [], [(2, (.app (.app (.sub (.var 34002) (.lit 0) (.fn 135 (.x (.var 34002) (.i (.rd (.fn 6 (.x (.var 2) (.x (.var 3) (.x (.var 4) (.x (.var 5) .nil))))) (.var 34001) 0) .nil)))) (.app (.row (.i (.rd (.fn 6 (.x (.var 2) (.x (.var 3) (.x (.var 4) (.x (.var 5) .nil))))) (.var 34001) 0) (.i (.rd (.fn 6 (.x (.var 2) (.x (.var 3) (.x (.var 4) (.x (.var 5) .nil))))) (.var 34001) 1) (.i (.rd (.fn 6 (.x (.var 2) (.x (.var 3) (.x (.var 4) (.x (.var 5) .nil))))) (.var 34001) 2) (.i (.rd (.fn 6 (.x (.var 2) (.x (.var 3) (.x (.var 4) (.x (.var 5) .nil))))) (.var 34001) 3) (.i (.rd (.fn 6 (.x (.var 2) (.x (.var 3) (.x (.var 4) (.x (.var 5) .nil))))) (.var 34001) 4) (.x (.rd (.fn 6 (.x (.var 2) (.x (.var 3) (.x (.var 4) (.x (.var 5) .nil))))) (.var 34001) 5) (.i (.rd (.fn 6 (.x (.var 2) (.x (.var 3) (.x (.var 4) (.x (.var 5) .nil))))) (.var 34001) 6) (.i (.rd (.fn 6 (.x (.var 2) (.x (.var 3) (.x (.var 4) (.x (.var 5) .nil))))) (.var 34001) 7) (.x (.rd (.fn 6 (.x (.var 2) (.x (.var 3) (.x (.var 4) (.x (.var 5) .nil))))) (.var 34001) 8) .nil)))))))))) .nil)) (.sub (.var 34002) (.fn 135 (.x (.var 34002) (.i (.rd (.fn 6 (.x (.var 2) (.x (.var 3) (.x (.var 4) (.x (.var 5) .nil))))) (.var 34001) 0) .nil))) (.len (.var 34002)))))]⟩))))
 (.ob (.tru (.cmp .leq (.lit 0) (.fn 135 (.x (.var 34002) (.i (.rd (.fn 6 (.x (.var 2) (.x (.var 3) (.x (.var 4) (.x (.var 5) .nil))))) (.var 34001) 0) .nil)))))
 (.ob (.tru (.cmp .lss (.fn 135 (.x (.var 34002) (.i (.rd (.fn 6 (.x (.var 2) (.x (.var 3) (.x (.var 4) (.x (.var 5) .nil))))) (.var 34001) 0) .nil))) (.len (.var 34002))))
 (.ite (.not (.fn 129 (.i (.rd (.var 34002) (.fn 135 (.x (.var 34002) (.i (.rd (.fn 6 (.x (.var 2) (.x (.var 3) (.x (.var 4) (.x (.var 5) .nil))))) (.var 34001) 0) .nil))) 0) (.i (.rd (.var 34002) (.fn 135 (.x (.var 34002) (.i (.rd (.fn 6 (.x (.var 2) (.x (.var 3) (.x (.var 4) (.x (.var 5) .nil))))) (.var 34001) 0) .nil))) 1) (.i (.rd (.var 34002) (.fn 135 (.x (.var 34002) (.i (.rd (.fn 6 (.x (.var 2) (.x (.var 3) (.x (.var 4) (.x (.var 5) .nil))))) (.var 34001) 0) .nil))) 2) (.i (.rd (.var 34002) (.fn 135 (.x (.var 34002) (.i (.rd (.fn 6 (.x (.var 2) (.x (.var 3) (.x (.var 4) (.x (.var 5) .nil))))) (.var 34001) 0) .nil))) 3) (.i (.rd (.var 34002) (.fn 135 (.x (.var 34002) (.i (.rd (.fn 6 (.x (.var 2) (.x (.var 3) (.x (.var 4) (.x (.var 5) .nil))))) (.var 34001) 0) .nil))) 4) (.x (.rd (.var 34002) (.fn 135 (.x (.var 34002) (.i (.rd (.fn 6 (.x (.var 2) (.x (.var 3) (.x (.var 4) (.x (.var 5) .nil))))) (.var 34001) 0) .nil))) 5) (.i (.rd (.var 34002) (.fn 135 (.x (.var 34002) (.i (.rd (.fn 6 (.x (.var 2) (.x (.var 3) (.x (.var 4) (.x (.var 5) .nil))))) (.var 34001) 0) .nil))) 6) (.i (.rd (.var 34002) (.fn 135 (.x (.var 34002) (.i (.rd (.fn 6 (.x (.var 2) (.x (.var 3) (.x (.var 4) (.x (.var 5) .nil))))) (.var 34001) 0) .nil))) 7) (.x (.rd (.var 34002) (.fn 135 (.x (.var 34002) (.i (.rd (.fn 6 (.x (.var 2) (.x (.var 3) (.x (.var 4) (.x (.var 5) .nil))))) (.var 34001) 0) .nil))) 8) (.i (.rd (.fn 6 (.x (.var 2) (.x (.var 3) (.x (.var 4) (.x (.var 5) .nil))))) (.var 34001) 0) (.i (.rd (.fn 6 (.x (.var 2) (.x (.var 3) (.x (.var 4) (.x (.var 5) .nil))))) (.var 34001) 1) (.i (.rd (.fn 6 (.x (.var 2) (.x (.var 3) (.x (.var 4) (.x (.var 5) .nil))))) (.var 34001) 2) (.i (.rd (.fn 6 (.x (.var 2) (.x (.var 3) (.x (.var 4) (.x (.var 5) .nil))))) (.var 34001) 3) (.i (.rd (.fn 6 (.x (.var 2) (.x (.var 3) (.x (.var 4) (.x (.var 5) .nil))))) (.var 34001) 4) (.x (.rd (.fn 6 (.x (.var 2) (.x (.var 3) (.x (.var 4) (.x (.var 5) .nil))))) (.var 34001) 5) (.i (.rd (.fn 6 (.x (.var 2) (.x (.var 3) (.x (.var 4) (.x (.var 5) .nil))))) (.var 34001) 6) (.i (.rd (.fn 6 (.x (.var 2) (.x (.var 3) (.x (.var 4) (.x (.var 5) .nil))))) (.var 34001) 7) (.x (.rd (.fn 6 (.x (.var 2) (.x (.var 3) (.x (.var 4) (.x (.var 5) .nil))))) (.var 34001) 8) .nil))))))))))))))))))))
 (.ite (.not (.fn 200 (.x (.var 0) (.x (.fn 5 (.x (.var 2) (.x (.var 3) (.x (.var 4) (.x (.var 5) .nil))))) .nil))))
 (.stuck "not possible")
 (.stuck "not possible"))
 (.next 4 ⟨[(0, (.var 34000)), (1, (.ar .add .i64 (.var 34001) (.lit 1))), (0, (.var 34000))], [], [(2, (.var 34002))]⟩))))))))
 (.ite (.not (.fn 200 (.x (.var 0) (.x (.fn 5 (.x (.var 2) (.x (.var 3) (.x (.var 4) (.x (.var 5) .nil))))) .nil))))
 (.stuck "not possible")
 (.ob (.tru (.fn 136 (.x (.fn 6 (.x (.var 2) (.x (.var 3) (.x (.var 4) (.x (.var 5) .nil))))) .nil)))
 (.ite (.fn 201 (.x (.var 0) (.x (.fn 6 (.x (.var 2) (.x (.var 3) (.x (.var 4) (.x (.var 5) .nil))))) .nil)))
 (.stuck "not possible")
 (.ob (.tru (.fn 136 (.x (.var 1) .nil)))
 (.ite (.fn 201 (.x (.fn 5 (.x (.var 2) (.x (.var 3) (.x (.var 4) (.x (.var 5) .nil))))) (.x (.var 1) .nil)))
 (.stuck "not possible")
 (.ite (.cmp .gtr (.ar .add .i64 (.len (.fn 4 (.x (.var 0) (.x (.fn 5 (.x (.var 2) (.x (.var 3) (.x (.var 4) (.x (.var 5) .nil))))) .nil)))) (.len (.var 34002))) (.lit 300))
 (.stuck "not possible")
 (.ite (.var 23000)
 (.ite (.cmp .eql (.fn 210 (.x (.fn 5 (.x (.var 0) (.x (.var 1) (.x (.var 2) (.x (.var 3) .nil))))) (.x (.fn 6 (.x (.var 0) (.x (.var 1) (.x (.var 2) (.x (.var 3) .nil))))) (.x (.var 4) (.x (.var 5) .nil))))) (.lit 0))
 (.ob (.tru (.fn 210 (.x .nil (.x .nil (.x (.fn 4 (.x (.var 0) (.x (.fn 5 (.x (.var 2) (.x (.var 3) (.x (.var 4) (.x (.var 5) .nil))))) .nil))) (.x (.var 34002) .nil))))))
 (.ret ((.v (.one (.z (.bool (.lit true))))), [], 37)))
 (.ret ((.v (.one (.z (.bool (.lit false))))), [], 37)))
 (.ret ((.v (.one (.z (.bool (.lit false))))), [], 37)))))))))))))))))
 (.ite (.var 23000)
 (.ite (.cmp .eql (.fn 210 (.x (.fn 5 (.x (.var 0) (.x (.var 1) (.x (.var 2) (.x (.var 3) .nil))))) (.x (.fn 6 (.x (.var 0) (.x (.var 1) (.x (.var 2) (.x (.var 3) .nil))))) (.x (.var 4) (.x (.var 5) .nil))))) (.fn 210 (.x (.var 0) (.x (.var 1) (.x (.fn 5 (.x (.var 2) (.x (.var 3) (.x (.var 4) (.x (.var 5) .nil))))) (.x (.fn 6 (.x (.var 2) (.x (.var 3) (.x (.var 4) (.x (.var 5) .nil))))) .nil))))))
 (.ob (.tru (.fn 210 (.x .nil (.x .nil (.x .nil (.x .nil .nil))))))
 (.ret ((.v (.one (.z (.bool (.lit true))))), [], 28)))
 (.ret ((.v (.one (.z (.bool (.lit false))))), [], 28)))
 (.ret ((.v (.one (.z (.bool (.lit false))))), [], 28))))))))))
 (.ite (.cmp .eql (.fn 210 (.x (.var 0) (.x (.var 1) (.x (.var 2) (.x (.var 3) .nil))))) (.fn 210 (.x (.var 2) (.x (.var 3) (.x (.var 0) (.x (.var 1) .nil))))))
 (.ite (.cmp .eql (.fn 210 (.x (.var 0) (.x (.var 1) (.x (.var 0) (.x (.var 1) .nil))))) (.lit 0))
 (.ite (.cmp .eql (.fn 160 (.x (.fn 5 (.x (.var 0) (.x (.var 1) (.x (.var 2) (.x (.var 3) .nil))))) (.x (.fn 6 (.x (.var 0) (.x (.var 1) (.x (.var 2) (.x (.var 3) .nil))))) .nil))) (.lit 0))
 (.ite (.cmp .eql (.fn 160 (.x (.var 0) (.x (.var 1) .nil))) (.lit 0))
 (.ite (.cmp .eql (.fn 160 (.x (.var 2) (.x (.var 3) .nil))) (.lit 0))
 (.ob (.tru (.fn 210 (.x (.fn 5 (.x (.var 0) (.x (.var 1) (.x (.var 0) (.x (.var 1) .nil))))) (.x (.fn 6 (.x (.var 0) (.x (.var 1) (.x (.var 0) (.x (.var 1) .nil))))) (.x (.var 0) (.x (.var 1) .nil))))))
 (.next 1 ⟨[], [(1, (.fn 150 (.x (.fn 5 (.x (.var 0) (.x (.var 1) (.x (.var 2) (.x (.var 3) .nil))))) (.x (.fn 6 (.x (.var 0) (.x (.var 1) (.x (.var 2) (.x (.var 3) .nil))))) .nil)))), (0, (.lit true))], []⟩))
 (.next 1 ⟨[], [(1, (.lit false)), (0, (.lit true))], []⟩))
 (.next 1 ⟨[], [(1, (.lit false)), (0, (.lit true))], []⟩))
 (.next 1 ⟨[], [(1, (.lit false)), (0, (.lit true))], []⟩))
 (.next 1 ⟨[], [(1, (.lit false)), (0, (.lit true))], []⟩))
 (.next 1 ⟨[], [(1, (.lit false)), (0, (.lit true))], []⟩)))))
 (.ob (.tru (.fn 210 (.x (.fn 5 (.x (.var 0) (.x (.var 1) (.x (.var 2) (.x (.var 3) .nil))))) (.x (.fn 6 (.x (.var 0) (.x (.var 1) (.x (.var 2) (.x (.var 3) .nil))))) (.x (.fn 5 (.x (.var 2) (.x (.var 3) (.x (.var 0) (.x (.var 1) .nil))))) (.x (.fn 6 (.x (.var 2) (.x (.var 3) (.x (.var 0) (.x (.var 1) .nil))))) .nil))))))
 (.next 0 ⟨[], [(0, (.lit true))], []⟩)))))
 (.ret ((.v (.one (.z (.bool (.lit true))))), [], 6))))
 (.ret ((.v (.one (.z (.bool (.lit true))))), [], 5))))
 (.ret ((.v (.one (.z (.bool (.lit true))))), [], 4)))
def trLawMer_h : List (Nat × St) := [
(20, ⟨(List.append [(.v (.one (.z .any))), (.v (.one (.z .any))), (.v (.one (.z .any))), (.v (.one (.z (.ptr 0 0)))), (.v (.one (.z (.ptr 1 0)))), (.v (.one (.z (.ptr 2 0)))), (.v (.one (.z (.bool (.lit false))))), (.v (.one (.z (.bool (.var 21000))))), (.v (.one (.z (.ptr 8 0)))), (.v (.one (.z (.int .i64 (.fn 210 (.x (.var 0) (.x (.var 1) (.x (.var 2) (.x (.var 3) .nil))))))))), (.v (.one (.z .any))), (.v (.one (.z (.int .i64 (.fn 210 (.x (.var 2) (.x (.var 3) (.x (.var 0) (.x (.var 1) .nil))))))))), (.v (.one (.z .any))), (.v (.one (.z .any))), (.v (.one (.z (.own 16 (.lit 0))))), (.v (.one (.z .any))), (.v (.one (.z (.own 17 (.lit 0))))), (.v (.one (.z .any))), (.v (.one (.z (.own 18 (.lit 0)))))] (List.append (List.replicate 103 V.any) (List.append [(.v (.one (.z (.ptr 0 0)))), (.v (.one (.z (.ext sndK (.var 0) false)))), (.v (.one (.z (.int .i64 (.len (.var 0)))))), (.v (.one (.z (.int .i64 (.var 21001)))))] (List.replicate 76 V.any)))), [(18, (.own 3 [(.int .i64)] (.fn 1 (.x (.var 2) (.x (.var 3) .nil))) (.lit 0))), (17, (.own 3 [(.int .i64)] (.fn 1 (.x (.var 0) (.x (.var 1) .nil))) (.lit 0))), (16, (.own 3 [(.int .i64)] (.fn 1 (.x (.fn 5 (.x (.var 0) (.x (.var 1) (.x (.var 2) (.x (.var 3) .nil))))) (.x (.fn 6 (.x (.var 0) (.x (.var 1) (.x (.var 2) (.x (.var 3) .nil))))) .nil))) (.lit 0))), (15, .gone), (13, .gone), (14, .gone), (11, .gone), (9, .gone), (10, .gone), (8, (.cells 25 [(.z (.own 6 (.lit 0))), (.z (.own 7 (.lit 0)))])), (6, (.own 53 sndK (.fn 5 (.x (.var 0) (.x (.var 1) (.x (.var 2) (.x (.var 3) .nil))))) (.lit 0))), (7, (.own 59 featK (.fn 6 (.x (.var 0) (.x (.var 1) (.x (.var 2) (.x (.var 3) .nil))))) (.lit 0))), (2, (.cells 25 [(.z (.ext sndK (.var 4) false)), (.z (.ext featK (.var 5) false))])), (1, (.cells 25 [(.z (.ext sndK (.var 2) false)), (.z (.ext featK (.var 3) false))])), (0, (.cells 25 [(.z (.ext sndK (.var 0) false)), (.z (.ext featK (.var 1) false))]))], 21, []⟩),
(22, ⟨(List.append [(.v (.one (.z .any))), (.v (.one (.z .any))), (.v (.one (.z .any))), (.v (.one (.z (.ptr 0 0)))), (.v (.one (.z (.ptr 1 0)))), (.v (.one (.z (.ptr 2 0)))), (.v (.one (.z (.bool (.lit false))))), (.v (.one (.z (.bool (.var 23000))))), (.v (.one (.z (.ptr 8 0)))), (.v (.one (.z (.int .i64 (.fn 210 (.x (.var 0) (.x (.var 1) (.x (.var 2) (.x (.var 3) .nil))))))))), (.v (.one (.z .any))), (.v (.one (.z (.int .i64 (.fn 210 (.x (.var 2) (.x (.var 3) (.x (.var 0) (.x (.var 1) .nil))))))))), (.v (.one (.z .any))), (.v (.one (.z .any))), (.v (.one (.z (.own 16 (.lit 0))))), (.v (.one (.z .any))), (.v (.one (.z (.own 17 (.lit 0))))), (.v (.one (.z .any))), (.v (.one (.z (.own 18 (.lit 0)))))] (List.append (List.replicate 103 V.any) (List.append [(.v (.one (.z (.ptr 0 0)))), (.v (.one (.z (.ext sndK (.var 0) false)))), (.v (.one (.z (.int .i64 (.len (.var 0)))))), (.v (.one (.z (.int .i64 (.var 21001))))), (.v (.one (.z (.bool (.cmp .lss (.var 21001) (.len (.var 0)))))))] (List.append (List.replicate 17 V.any) (List.append [(.v (.one (.z (.ptr 1 0)))), (.v (.one (.z (.ext sndK (.var 2) false)))), (.v (.one (.z (.int .i64 (.len (.var 2)))))), (.v (.one (.z (.int .i64 (.var 23001)))))] (List.replicate 54 V.any)))))), [(18, (.own 3 [(.int .i64)] (.fn 1 (.x (.var 2) (.x (.var 3) .nil))) (.lit 0))), (17, (.own 3 [(.int .i64)] (.fn 1 (.x (.var 0) (.x (.var 1) .nil))) (.lit 0))), (16, (.own 3 [(.int .i64)] (.fn 1 (.x (.fn 5 (.x (.var 0) (.x (.var 1) (.x (.var 2) (.x (.var 3) .nil))))) (.x (.fn 6 (.x (.var 0) (.x (.var 1) (.x (.var 2) (.x (.var 3) .nil))))) .nil))) (.lit 0))), (15, .gone), (13, .gone), (14, .gone), (11, .gone), (9, .gone), (10, .gone), (8, (.cells 25 [(.z (.own 6 (.lit 0))), (.z (.own 7 (.lit 0)))])), (6, (.own 53 sndK (.fn 5 (.x (.var 0) (.x (.var 1) (.x (.var 2) (.x (.var 3) .nil))))) (.lit 0))), (7, (.own 59 featK (.fn 6 (.x (.var 0) (.x (.var 1) (.x (.var 2) (.x (.var 3) .nil))))) (.lit 0))), (2, (.cells 25 [(.z (.ext sndK (.var 4) false)), (.z (.ext featK (.var 5) false))])), (1, (.cells 25 [(.z (.ext sndK (.var 2) false)), (.z (.ext featK (.var 3) false))])), (0, (.cells 25 [(.z (.ext sndK (.var 0) false)), (.z (.ext featK (.var 1) false))]))], 23, []⟩),
(29, ⟨(List.append [(.v (.one (.z (.own 7 (.lit 0))))), (.v (.one (.z (.ext featK (.var 5) false)))), (.v (.one (.z (.clo 43 [])))), (.v (.one (.z (.clo 35 []))))] (List.append (List.replicate 4 V.any) (List.append [(.v (.one (.z (.const (.slice none 0 0))))), (.v (.one (.z (.bool (.lit false))))), (.v (.one (.z (.own 28 (.var 30000)))))] (List.append (List.replicate 4 V.any) (List.append [(.v (.one (.z (.own 7 (.lit 0))))), (.v (.one (.z (.own 28 (.lit 0))))), (.v (.one (.z (.ext featK (.var 5) false)))), (.v (.one (.z (.int .i64 (.len (.var 5)))))), (.v (.one (.z (.int .i64 (.var 30001)))))] (List.replicate 31 V.any)))))), [(28, (.own 59 featK (.var 30002) (.var 30000))), (27, (.own 53 sndK (.fn 4 (.x (.fn 5 (.x (.var 0) (.x (.var 1) (.x (.var 2) (.x (.var 3) .nil))))) (.x (.var 4) .nil))) (.lit 0))), (26, (.cells 25 [(.z (.const (.slice none 0 0))), (.z (.const (.slice none 0 0)))])), (25, (.cells 25 [(.z (.ext sndK (.var 4) false)), (.z (.ext featK (.var 5) false))])), (24, (.cells 25 [(.z (.own 6 (.lit 0))), (.z (.own 7 (.lit 0)))])), (18, (.own 3 [(.int .i64)] (.fn 1 (.x (.var 2) (.x (.var 3) .nil))) (.lit 0))), (17, (.own 3 [(.int .i64)] (.fn 1 (.x (.var 0) (.x (.var 1) .nil))) (.lit 0))), (16, (.own 3 [(.int .i64)] (.fn 1 (.x (.fn 5 (.x (.var 0) (.x (.var 1) (.x (.var 2) (.x (.var 3) .nil))))) (.x (.fn 6 (.x (.var 0) (.x (.var 1) (.x (.var 2) (.x (.var 3) .nil))))) .nil))) (.lit 0))), (15, .gone), (13, .gone), (14, .gone), (11, .gone), (9, .gone), (10, .gone), (8, (.cells 25 [(.z (.own 6 (.lit 0))), (.z (.own 7 (.lit 0)))])), (6, (.own 53 sndK (.fn 5 (.x (.var 0) (.x (.var 1) (.x (.var 2) (.x (.var 3) .nil))))) (.lit 0))), (7, (.own 59 featK (.fn 6 (.x (.var 0) (.x (.var 1) (.x (.var 2) (.x (.var 3) .nil))))) (.lit 0))), (2, (.cells 25 [(.z (.ext sndK (.var 4) false)), (.z (.ext featK (.var 5) false))])), (1, (.cells 25 [(.z (.ext sndK (.var 2) false)), (.z (.ext featK (.var 3) false))])), (0, (.cells 25 [(.z (.ext sndK (.var 0) false)), (.z (.ext featK (.var 1) false))]))], 30, []⟩),
(42, ⟨(List.append [(.v (.one (.z (.ext featK (.var 1) false)))), (.v (.one (.z (.own 35 (.lit 0))))), (.v (.one (.z (.clo 43 [])))), (.v (.one (.z (.clo 35 []))))] (List.append (List.replicate 4 V.any) (List.append [(.v (.one (.z (.const (.slice none 0 0))))), (.v (.one (.z (.bool (.lit false))))), (.v (.one (.z (.own 41 (.var 43000)))))] (List.append (List.replicate 4 V.any) (List.append [(.v (.one (.z (.ext featK (.var 1) false)))), (.v (.one (.z (.own 41 (.lit 0))))), (.v (.one (.z (.own 35 (.lit 0))))), (.v (.one (.z (.int .i64 (.len (.fn 6 (.x (.var 2) (.x (.var 3) (.x (.var 4) (.x (.var 5) .nil)))))))))), (.v (.one (.z (.int .i64 (.var 43001)))))] (List.replicate 31 V.any)))))), [(41, (.own 59 featK (.var 43002) (.var 43000))), (40, (.own 53 sndK (.fn 4 (.x (.var 0) (.x (.fn 5 (.x (.var 2) (.x (.var 3) (.x (.var 4) (.x (.var 5) .nil))))) .nil))) (.lit 0))), (39, (.cells 25 [(.z (.const (.slice none 0 0))), (.z (.const (.slice none 0 0)))])), (38, (.cells 25 [(.z (.own 34 (.lit 0))), (.z (.own 35 (.lit 0)))])), (37, (.cells 25 [(.z (.ext sndK (.var 0) false)), (.z (.ext featK (.var 1) false))])), (36, (.cells 25 [(.z (.own 34 (.lit 0))), (.z (.own 35 (.lit 0)))])), (34, (.own 53 sndK (.fn 5 (.x (.var 2) (.x (.var 3) (.x (.var 4) (.x (.var 5) .nil))))) (.lit 0))), (35, (.own 59 featK (.fn 6 (.x (.var 2) (.x (.var 3) (.x (.var 4) (.x (.var 5) .nil))))) (.lit 0))), (33, (.cells 25 [(.z (.own 27 (.lit 0))), (.z (.own 28 (.var 30000)))])), (28, (.own 59 featK (.var 30002) (.var 30000))), (27, (.own 53 sndK (.fn 4 (.x (.fn 5 (.x (.var 0) (.x (.var 1) (.x (.var 2) (.x (.var 3) .nil))))) (.x (.var 4) .nil))) (.lit 0))), (18, (.own 3 [(.int .i64)] (.fn 1 (.x (.var 2) (.x (.var 3) .nil))) (.lit 0))), (17, (.own 3 [(.int .i64)] (.fn 1 (.x (.var 0) (.x (.var 1) .nil))) (.lit 0))), (16, (.own 3 [(.int .i64)] (.fn 1 (.x (.fn 5 (.x (.var 0) (.x (.var 1) (.x (.var 2) (.x (.var 3) .nil))))) (.x (.fn 6 (.x (.var 0) (.x (.var 1) (.x (.var 2) (.x (.var 3) .nil))))) .nil))) (.lit 0))), (15, .gone), (13, .gone), (14, .gone), (11, .gone), (9, .gone), (10, .gone), (8, (.cells 25 [(.z (.own 6 (.lit 0))), (.z (.own 7 (.lit 0)))])), (6, (.own 53 sndK (.fn 5 (.x (.var 0) (.x (.var 1) (.x (.var 2) (.x (.var 3) .nil))))) (.lit 0))), (7, (.own 59 featK (.fn 6 (.x (.var 0) (.x (.var 1) (.x (.var 2) (.x (.var 3) .nil))))) (.lit 0))), (2, (.cells 25 [(.z (.ext sndK (.var 4) false)), (.z (.ext featK (.var 5) false))])), (1, (.cells 25 [(.z (.ext sndK (.var 2) false)), (.z (.ext featK (.var 3) false))])), (0, (.cells 25 [(.z (.ext sndK (.var 0) false)), (.z (.ext featK (.var 1) false))]))], 43, []⟩),
(33, ⟨(List.append [(.v (.one (.z (.ext featK (.var 1) false)))), (.v (.one (.z (.own 26 (.lit 0))))), (.v (.one (.z (.clo 43 [])))), (.v (.one (.z (.clo 35 []))))] (List.append (List.replicate 4 V.any) (List.append [(.v (.one (.z (.const (.slice none 0 0))))), (.v (.one (.z (.bool (.lit false))))), (.v (.one (.z (.own 32 (.var 34000)))))] (List.append (List.replicate 4 V.any) (List.append [(.v (.one (.z (.ext featK (.var 1) false)))), (.v (.one (.z (.own 32 (.lit 0))))), (.v (.one (.z (.own 26 (.lit 0))))), (.v (.one (.z (.int .i64 (.len (.fn 6 (.x (.var 2) (.x (.var 3) (.x (.var 4) (.x (.var 5) .nil)))))))))), (.v (.one (.z (.int .i64 (.var 34001)))))] (List.replicate 31 V.any)))))), [(32, (.own 59 featK (.var 34002) (.var 34000))), (31, (.own 53 sndK (.fn 4 (.x (.var 0) (.x (.fn 5 (.x (.var 2) (.x (.var 3) (.x (.var 4) (.x (.var 5) .nil))))) .nil))) (.lit 0))), (30, (.cells 25 [(.z (.const (.slice none 0 0))), (.z (.const (.slice none 0 0)))])), (29, (.cells 25 [(.z (.own 25 (.lit 0))), (.z (.own 26 (.lit 0)))])), (28, (.cells 25 [(.z (.ext sndK (.var 0) false)), (.z (.ext featK (.var 1) false))])), (27, (.cells 25 [(.z (.own 25 (.lit 0))), (.z (.own 26 (.lit 0)))])), (25, (.own 53 sndK (.fn 5 (.x (.var 2) (.x (.var 3) (.x (.var 4) (.x (.var 5) .nil))))) (.lit 0))), (26, (.own 59 featK (.fn 6 (.x (.var 2) (.x (.var 3) (.x (.var 4) (.x (.var 5) .nil))))) (.lit 0))), (24, (.cells 25 [(.z (.const (.slice none 0 0))), (.z (.const (.slice none 0 0)))])), (18, (.own 3 [(.int .i64)] (.fn 1 (.x (.var 2) (.x (.var 3) .nil))) (.lit 0))), (17, (.own 3 [(.int .i64)] (.fn 1 (.x (.var 0) (.x (.var 1) .nil))) (.lit 0))), (16, (.own 3 [(.int .i64)] (.fn 1 (.x (.fn 5 (.x (.var 0) (.x (.var 1) (.x (.var 2) (.x (.var 3) .nil))))) (.x (.fn 6 (.x (.var 0) (.x (.var 1) (.x (.var 2) (.x (.var 3) .nil))))) .nil))) (.lit 0))), (15, .gone), (13, .gone), (14, .gone), (11, .gone), (9, .gone), (10, .gone), (8, (.cells 25 [(.z (.own 6 (.lit 0))), (.z (.own 7 (.lit 0)))])), (6, (.own 53 sndK (.fn 5 (.x (.var 0) (.x (.var 1) (.x (.var 2) (.x (.var 3) .nil))))) (.lit 0))), (7, (.own 59 featK (.fn 6 (.x (.var 0) (.x (.var 1) (.x (.var 2) (.x (.var 3) .nil))))) (.lit 0))), (2, (.cells 25 [(.z (.ext sndK (.var 4) false)), (.z (.ext featK (.var 5) false))])), (1, (.cells 25 [(.z (.ext sndK (.var 2) false)), (.z (.ext featK (.var 3) false))])), (0, (.cells 25 [(.z (.ext sndK (.var 0) false)), (.z (.ext featK (.var 1) false))]))], 34, []⟩)]
def trLawMer_j : List (FuncId × Nat × Nat × St) := [
(8, 2000053, 12, ⟨(List.append [(.v (.one (.z .any))), (.v (.one (.z .any))), (.v (.one (.z .any))), (.v (.one (.z (.ptr 0 0)))), (.v (.one (.z (.ptr 1 0)))), (.v (.one (.z (.ptr 2 0)))), (.v (.one (.z (.bool (.lit false))))), (.v (.one (.z (.bool (.cmp .eql (.fn 210 (.x (.var 0) (.x (.var 1) (.x (.var 2) (.x (.var 3) .nil))))) (.fn 210 (.x (.var 2) (.x (.var 3) (.x (.var 0) (.x (.var 1) .nil)))))))))), (.v (.one (.z (.ptr 8 0)))), (.v (.one (.z (.int .i64 (.fn 210 (.x (.var 0) (.x (.var 1) (.x (.var 2) (.x (.var 3) .nil))))))))), (.v (.one (.z .any))), (.v (.one (.z (.int .i64 (.fn 210 (.x (.var 2) (.x (.var 3) (.x (.var 0) (.x (.var 1) .nil)))))))))] (List.replicate 190 V.any)), [(11, .gone), (9, .gone), (10, .gone), (8, (.cells 25 [(.z (.own 6 (.lit 0))), (.z (.own 7 (.lit 0)))])), (6, (.own 53 sndK (.fn 5 (.x (.var 0) (.x (.var 1) (.x (.var 2) (.x (.var 3) .nil))))) (.lit 0))), (7, (.own 59 featK (.fn 6 (.x (.var 0) (.x (.var 1) (.x (.var 2) (.x (.var 3) .nil))))) (.lit 0))), (2, (.cells 25 [(.z (.ext sndK (.var 4) false)), (.z (.ext featK (.var 5) false))])), (1, (.cells 25 [(.z (.ext sndK (.var 2) false)), (.z (.ext featK (.var 3) false))])), (0, (.cells 25 [(.z (.ext sndK (.var 0) false)), (.z (.ext featK (.var 1) false))]))], 13, []⟩),
(8, 2000096, 19, ⟨(List.append [(.v (.one (.z .any))), (.v (.one (.z .any))), (.v (.one (.z .any))), (.v (.one (.z (.ptr 0 0)))), (.v (.one (.z (.ptr 1 0)))), (.v (.one (.z (.ptr 2 0)))), (.v (.one (.z (.bool (.lit false))))), (.v (.one (.z (.bool (.var 20001))))), (.v (.one (.z (.ptr 8 0)))), (.v (.one (.z (.int .i64 (.fn 210 (.x (.var 0) (.x (.var 1) (.x (.var 2) (.x (.var 3) .nil))))))))), (.v (.one (.z .any))), (.v (.one (.z (.int .i64 (.fn 210 (.x (.var 2) (.x (.var 3) (.x (.var 0) (.x (.var 1) .nil))))))))), (.v (.one (.z .any))), (.v (.one (.z .any))), (.v (.one (.z (.own 16 (.lit 0))))), (.v (.one (.z .any))), (.v (.one (.z (.own 17 (.lit 0))))), (.v (.one (.z .any))), (.v (.one (.z (.own 18 (.lit 0)))))] (List.replicate 183 V.any)), [(18, (.own 3 [(.int .i64)] (.fn 1 (.x (.var 2) (.x (.var 3) .nil))) (.lit 0))), (17, (.own 3 [(.int .i64)] (.fn 1 (.x (.var 0) (.x (.var 1) .nil))) (.lit 0))), (16, (.own 3 [(.int .i64)] (.fn 1 (.x (.fn 5 (.x (.var 0) (.x (.var 1) (.x (.var 2) (.x (.var 3) .nil))))) (.x (.fn 6 (.x (.var 0) (.x (.var 1) (.x (.var 2) (.x (.var 3) .nil))))) .nil))) (.lit 0))), (15, .gone), (13, .gone), (14, .gone), (11, .gone), (9, .gone), (10, .gone), (8, (.cells 25 [(.z (.own 6 (.lit 0))), (.z (.own 7 (.lit 0)))])), (6, (.own 53 sndK (.fn 5 (.x (.var 0) (.x (.var 1) (.x (.var 2) (.x (.var 3) .nil))))) (.lit 0))), (7, (.own 59 featK (.fn 6 (.x (.var 0) (.x (.var 1) (.x (.var 2) (.x (.var 3) .nil))))) (.lit 0))), (2, (.cells 25 [(.z (.ext sndK (.var 4) false)), (.z (.ext featK (.var 5) false))])), (1, (.cells 25 [(.z (.ext sndK (.var 2) false)), (.z (.ext featK (.var 3) false))])), (0, (.cells 25 [(.z (.ext sndK (.var 0) false)), (.z (.ext featK (.var 1) false))]))], 20, []⟩)]
set_option maxRecDepth 100000 in
theorem trLawMer_is : T.norm 0 (call Tryz.prog (ctVA Tryz.prog) ⟨Lt.un (Lt.of [(8, 2000053), (8, 2000096), (8, 3000000)]), trLawMer_h, trLawMer_j⟩ 150 8 (symArgs 0 [suv, suv, suv]) [] 0) TT.ret = trLawMer := by kernel_rfl
theorem trLawMer_low : trLawMer.low 1000 = true := by kernel_rfl
end Go.Proofs.YtldbejmgalhdaaaGreat
/- Chapter 09: what Merge's answers are: no program. -/
namespace Go.Proofs.YtldbejmgalhdaaaGreat
open Go.RowKit
/-! ### Rows of features, with what they hold -/
def ints9 (c : Nat) (row : List D) : Prop := row.length = c ∧ ∀ d ∈ row, ∃ n, d = .i n
def wf9 (c : Nat) (r : Rows) : Prop := ∀ (i : Nat) row, r[i]? = some row → ints9 c row
def isInt9 : CK → Bool | .int _ => true | _ => false
theorem reps_ints9 {w : World} : ∀ {ks : List CK} {vs : List Value} {ds : List D}, ks.all isInt9 = true → CK.reps w ks vs ds → ints9 ks.length ds
  | [], vs, ds, _, h => by
    unfold CK.reps at h
    obtain ⟨rfl, rfl⟩ := h
    exact ⟨rfl, fun d hd => by cases hd⟩
  | k :: ks, vs, ds, hk, h => by
    unfold CK.reps at h
    obtain ⟨v, vs', d, ds', rfl, rfl, h1, h2⟩ := h
    simp only [List.all_cons, Bool.and_eq_true] at hk
    obtain ⟨g1, g2⟩ := reps_ints9 hk.2 h2
    refine ⟨by simp [g1], fun e he => ?_⟩
    rcases List.mem_cons.mp he with q | q
    · subst q
      cases k with
      | int k =>
        unfold CK.rep at h1
        obtain ⟨n, _, rfl⟩ := h1
        exact ⟨n, rfl⟩
      | bool => exact absurd hk.1 (by decide)
      | sl ks => exact absurd hk.1 (by simp [isInt9])
    · exact g2 e q
theorem rep_wf9 {w : World} {ks : List CK} {v : Value} {d : D} (hk : ks.all isInt9 = true) (h : CK.rep w (.sl ks) v d) : wf9 ks.length d.rows := by
  rw [rep_sl] at h
  obtain ⟨r, rfl, a, n, c, _, hs, _⟩ := h
  intro i row hi
  have hi' : r[i]? = some row := hi
  have hlt : i < r.length := by
    rcases Nat.lt_or_ge i r.length with q | q
    · exact q
    · rw [List.getElem?_eq_none q] at hi'; cases hi'
  have := hs.there (by have := hs.len; omega)
  cases a with
  | none => cases this
  | some b =>
    obtain ⟨vs, h1, _⟩ := hs.cell b rfl i row hi'
    exact reps_ints9 hk h1
theorem rows_eq9 {c : Nat} {r s : Rows} (hr : wf9 c r) (hs : wf9 c s) (h : eqX c r s = true) : r = s := by
  obtain ⟨hl, he⟩ := eqX_iff.mp h
  refine List.ext_getElem? (fun i => ?_)
  rcases Nat.lt_or_ge i r.length with q | q
  · have er : r[i]? = some r[i] := List.getElem?_eq_getElem q
    have es : s[i]? = some (s[i]'(by omega)) := List.getElem?_eq_getElem (by omega)
    obtain ⟨l1, n1⟩ := hr i _ er
    obtain ⟨l2, n2⟩ := hs i _ es
    rw [er, es]
    congr 1
    refine List.ext_getElem (by omega) (fun j h1 h2 => ?_)
    have g := he i q j (by omega)
    unfold lg cellAt at g
    rw [Int.toNat_natCast, er, es] at g
    simp only [Option.getD_some] at g
    rw [List.getElem?_eq_getElem h1, List.getElem?_eq_getElem h2] at g
    simp only [Option.getD_some] at g
    obtain ⟨u, eu⟩ := n1 _ (List.getElem_mem h1)
    obtain ⟨v, ev⟩ := n2 _ (List.getElem_mem h2)
    rw [eu, ev] at g ⊢
    have g' : u = v := g
    rw [g']
  · rw [List.getElem?_eq_none q, List.getElem?_eq_none (by omega)]
def rowF (row : List D) : Prop := row9 row ∧ wf9 2 (cR row 5) ∧ wf9 6 (cR row 8)
theorem reps_rowF {w : World} {us : List Value} {row : List D} (h : CK.reps w featK us row) : rowF row := by
  refine ⟨reps_row9 h, ?_, ?_⟩
  · obtain ⟨v, d, _, h1, h2⟩ := reps_get (j := 5) (k := .sl ptK) h rfl
    have := rep_wf9 (by decide) h2
    unfold cR
    rw [h1]; exact this
  · obtain ⟨v, d, _, h1, h2⟩ := reps_get (j := 8) (k := .sl secK) h rfl
    have := rep_wf9 (by decide) h2
    unfold cR
    rw [h1]; exact this
theorem suv_rowF {W : World} {vals : List Value} {ds : List D} {sh : List Sh} (h : repSh W (suv :: sh) vals ds) : ∀ row ∈ rAt ds 1, rowF row := by
  obtain ⟨v, vs', d, ds', rfl, rfl, ⟨us, rfl, h⟩, _⟩ := h
  have e1 : d.length = 2 := (reps_len h).2
  obtain ⟨_, x0, _, p0, q0⟩ := reps_get (j := 1) h rfl
  have a0 : (d ++ ds')[1]? = some x0 := by rw [List.getElem?_append_left (by omega)]; exact p0
  have gd : (d ++ ds').getD 1 (.i 0) = x0 := by rw [List.getD_eq_getElem?_getD, a0]; rfl
  intro row hrow
  unfold rAt at hrow
  rw [gd, rep_sl] at *
  obtain ⟨r, rfl, a, n, c, _, hs, _⟩ := q0
  obtain ⟨i, hi, rfl⟩ := List.getElem_of_mem hrow
  obtain ⟨b, hb⟩ := Option.isSome_iff_exists.1 (hs.there (by have := hs.len; have : i < r.length := hi; omega))
  obtain ⟨vs, g1, _⟩ := hs.cell b hb i r[i] (List.getElem?_eq_getElem hi)
  exact reps_rowF g1
theorem suv_shift {W : World} {vals : List Value} {ds : List D} {sh : List Sh} (h : repSh W (suv :: sh) vals ds) : ∃ vs' ds', repSh W sh vs' ds' ∧ ∀ k, rAt ds (k + 2) = rAt ds' k := by
  obtain ⟨v, vs', d, ds', rfl, rfl, ⟨us, rfl, h0⟩, h⟩ := h
  have e1 : d.length = 2 := (reps_len h0).2
  refine ⟨vs', ds', h, fun k => ?_⟩
  unfold rAt
  rw [List.getD_eq_getElem?_getD, List.getD_eq_getElem?_getD, List.getElem?_append_right (by omega), e1, Nat.add_sub_cancel]
theorem eqS_iff {y x : List D} (hy : row7 y) (hx : row7 x) : eqS7 y x = true ↔ y = x := by
  unfold eqS7
  rw [decide_eq_true_eq]
  constructor
  · rintro ⟨a, ⟨b, c⟩, d, ⟨e, f⟩, g⟩
    rw [hy, hx, a, b, c, d, e, f, g]
  · rintro rfl; simp
theorem same_iff {y x : List D} (hy : rowF y) (hx : rowF x) : sameR9 y x = true ↔ y = x := by
  constructor
  · intro h
    unfold sameR9 sameB at h
    simp only [Bool.and_eq_true, decide_eq_true_eq] at h
    obtain ⟨⟨⟨a, b, c, d⟩, e, f, g⟩, h1, h2⟩ := h
    have e5 := rows_eq9 hy.2.1 hx.2.1 h1
    have e8 := rows_eq9 hy.2.2 hx.2.2 h2
    rw [hy.1, hx.1, a, b, c, d, e, f, g, e5, e8]
  · rintro rfl; exact same_self9 y
/-! ### When surveys can be merged -/
def CompL (a b : Rows) : Prop := ∀ x ∈ a, ∀ y ∈ b, cI x 0 = cI y 0 → x = y
def DisL (a b : Rows) : Prop := ∀ x ∈ a, ∀ y ∈ b, cI x 0 ≠ cI y 0
theorem okJ_iff {p : List D → List D → Bool} {a b : Rows} (ha : RisP a) (hp : ∀ x ∈ a, ∀ y ∈ b, (p x y = true ↔ x = y)) : okJ p a b = true ↔ CompL a b := by
  unfold okJ
  rw [List.all_eq_true]
  constructor
  · intro h x hx y hy e
    have hb : isB a (cI y 0) = true := (isB_mem ha).2 ⟨x, hx, e⟩
    have := h y hy
    rw [hb, ← e, getK_mem ha hx] at this
    exact (hp x hx y hy).1 this
  · intro h y hy
    cases q : isB a (cI y 0) with
    | false => rfl
    | true =>
      obtain ⟨x, hx, e⟩ := (isB_mem ha).1 q
      rw [← e, getK_mem ha hx, (hp x hx y hy).2 (h x hx y hy e)]; rfl
theorem shd_iff {s G : Rows} (hG : RisP G) : shdB s G = false ↔ DisL s G := by
  unfold shdB
  rw [List.any_eq_false]
  constructor
  · intro h x hx y hy e
    exact h x hx ((isB_mem hG).2 ⟨y, hy, e.symm⟩)
  · intro h x hx hb
    obtain ⟨y, hy, e⟩ := (isB_mem hG).1 hb
    exact h x hx y hy e.symm
structure Sv (s F : Rows) : Prop where
  s7 : ∀ x ∈ s, row7 x
  f9 : ∀ x ∈ F, rowF x
structure NoLie (s F t G : Rows) : Prop where
  cs : CompL s t
  cf : CompL F G
  ds : DisL s G
  dt : DisL t F
theorem val_ris {s F : Rows} (h : surB s F = true) : RisP s ∧ RisP F := ⟨(sur_iff.1 h).2.2.1, (list_iff.1 (sur_iff.1 h).1.1).2.1⟩
theorem lie_iff {s F t G : Rows} (h1 : Sv s F) (h2 : Sv t G) (v1 : surB s F = true) (v2 : surB t G = true) : lieB s F t G = false ↔ NoLie s F t G := by
  obtain ⟨a1, a2⟩ := val_ris v1
  obtain ⟨b1, b2⟩ := val_ris v2
  have e1 := okJ_iff (p := eqS7) (b := t) a1 (fun x hx y hy => eqS_iff (h1.s7 x hx) (h2.s7 y hy))
  have e2 := okJ_iff (p := sameR9) (b := G) a2 (fun x hx y hy => same_iff (h1.f9 x hx) (h2.f9 y hy))
  have e3 := shd_iff (s := s) b2
  have e4 := shd_iff (s := t) a2
  unfold lieB
  rw [Bool.not_eq_false', Bool.and_eq_true, Bool.and_eq_true, Bool.and_eq_true, Bool.not_eq_true', Bool.not_eq_true', e1, e2, e3, e4]
  exact ⟨fun ⟨a, b, c, d⟩ => ⟨a, b, c, d⟩, fun h => ⟨h.cs, h.cf, h.ds, h.dt⟩⟩
theorem CompL.symm {a b : Rows} (h : CompL a b) : CompL b a := fun x hx y hy e => (h y hy x hx e.symm).symm
theorem DisL.symm {a b : Rows} (h : DisL a b) : DisL b a := fun x hx y hy e => h y hy x hx e.symm
theorem NoLie.symm {s F t G : Rows} (h : NoLie s F t G) : NoLie t G s F := ⟨h.cs.symm, h.cf.symm, h.dt, h.ds⟩
theorem jn_mem {a b : Rows} (ha : RisP a) (h : CompL a b) {x : List D} : x ∈ jnR a b ↔ x ∈ a ∨ x ∈ b := by
  rw [jnR_mem ha]
  constructor
  · rintro (q | q)
    · exact .inl q
    · exact .inr q.1
  · rintro (q | q)
    · exact .inl q
    · by_cases e : ∃ y ∈ a, cI y 0 = cI x 0
      · obtain ⟨y, hy, e⟩ := e
        rw [← h y hy x q e]
        exact .inl hy
      · exact .inr ⟨q, fun y hy e' => e ⟨y, hy, e'⟩⟩
theorem jn_ris {a b : Rows} (ha : RisP a) (hb : RisP b) : RisP (jnR a b) := jnR_ris ha hb
theorem jn_comm {a b : Rows} (ha : RisP a) (hb : RisP b) (h : CompL a b) : jnR a b = jnR b a :=
  ris_ext (jn_ris ha hb) (jn_ris hb ha) (fun x => by rw [jn_mem ha h, jn_mem hb h.symm]; exact Or.comm)
theorem jn_self {a : Rows} (ha : RisP a) : jnR a a = a :=
  ris_ext (jn_ris ha ha) ha (fun x => by rw [jn_mem ha (fun y hy z hz e => ris_inj ha hy hz e)]; exact or_self_iff)
theorem comp_jn {a b c : Rows} (ha : RisP a) (h : CompL a b) : CompL (jnR a b) c ↔ CompL a c ∧ CompL b c := by
  constructor
  · intro g
    exact ⟨fun x hx => g x ((jn_mem ha h).2 (.inl hx)), fun x hx => g x ((jn_mem ha h).2 (.inr hx))⟩
  · rintro ⟨g1, g2⟩ x hx
    rcases (jn_mem ha h).1 hx with q | q
    · exact g1 x q
    · exact g2 x q
theorem dis_jn {a b c : Rows} (ha : RisP a) (h : CompL a b) : DisL (jnR a b) c ↔ DisL a c ∧ DisL b c := by
  constructor
  · intro g
    exact ⟨fun x hx => g x ((jn_mem ha h).2 (.inl hx)), fun x hx => g x ((jn_mem ha h).2 (.inr hx))⟩
  · rintro ⟨g1, g2⟩ x hx
    rcases (jn_mem ha h).1 hx with q | q
    · exact g1 x q
    · exact g2 x q
theorem jn_assoc {a b c : Rows} (ha : RisP a) (hb : RisP b) (hc : RisP c) (h1 : CompL a b) (h2 : CompL b c) (h3 : CompL a c) : jnR (jnR a b) c = jnR a (jnR b c) := by
  have g1 : CompL (jnR a b) c := (comp_jn ha h1).2 ⟨h3, h2⟩
  have g2 : CompL a (jnR b c) := ((comp_jn hb h2).2 ⟨h1.symm, h3.symm⟩).symm
  refine ris_ext (jn_ris (jn_ris ha hb) hc) (jn_ris ha (jn_ris hb hc)) (fun x => ?_)
  rw [jn_mem (jn_ris ha hb) g1, jn_mem ha h1, jn_mem ha g2, jn_mem hb h2]
  exact or_assoc
theorem Sv.jn {s F t G : Rows} (h1 : Sv s F) (h2 : Sv t G) : Sv (jnR s t) (jnR F G) := by
  refine ⟨fun x hx => ?_, fun x hx => ?_⟩
  · unfold jnR at hx
    rcases (mem_insL _ _).1 hx with q | q
    · exact h1.s7 x q
    · exact h2.s7 x ((List.mem_filter.1 q).1)
  · unfold jnR at hx
    rcases (mem_insL _ _).1 hx with q | q
    · exact h1.f9 x q
    · exact h2.f9 x ((List.mem_filter.1 q).1)
theorem jn_valid {s F t G : Rows} (v1 : surB s F = true) (v2 : surB t G = true) (h : NoLie s F t G) (hl : (jnR s t).length + (jnR F G).length ≤ 300) : surB (jnR s t) (jnR F G) = true := by
  obtain ⟨a1, a2⟩ := val_ris v1
  obtain ⟨b1, b2⟩ := val_ris v2
  obtain ⟨⟨f1, f2⟩, f3, f4, f5⟩ := sur_iff.1 v1
  obtain ⟨⟨g1, g2⟩, g3, g4, g5⟩ := sur_iff.1 v2
  refine sur_iff.2 ⟨⟨list_iff.2 ⟨fun x hx => ?_, jn_ris a2 b2, by omega⟩, hl⟩, fun x hx => ?_, jn_ris a1 b1, fun x hx f hf => ?_⟩
  · rcases (jn_mem a2 h.cf).1 hx with q | q
    · exact (list_iff.1 f1).1 x q
    · exact (list_iff.1 g1).1 x q
  · rcases (jn_mem a1 h.cs).1 hx with q | q
    · exact f3 x q
    · exact g3 x q
  · rcases (jn_mem a1 h.cs).1 hx with q | q <;> rcases (jn_mem a2 h.cf).1 hf with r | r
    · exact f5 x q f r
    · exact fun e => h.ds x q f r e.symm
    · exact fun e => h.dt x q f r e.symm
    · exact g5 x q f r
theorem mgE_small {s F t G : Rows} (hl : s.length + t.length + F.length + G.length ≤ 300) : (mgE4 s F t G = 1 ↔ ¬ (surB s F = true ∧ surB t G = true)) ∧ (mgE4 s F t G = 0 ∨ mgE4 s F t G = 1 ∨ mgE4 s F t G = 18) ∧ (mgE4 s F t G = 0 ↔ (surB s F = true ∧ surB t G = true) ∧ lieB s F t G = false) := by
  have h1 := @jnR_len s t
  have h2 := @jnR_len F G
  unfold mgE4
  by_cases q : surB s F = true ∧ surB t G = true
  · rw [q.1, q.2, Bool.true_and, if_pos rfl]
    cases r : lieB s F t G with
    | true => rw [if_pos rfl]; simp
    | false => rw [if_neg (by decide), if_neg (by omega)]; simp
  · rw [if_neg (by rw [Bool.and_eq_true]; exact q)]
    simp [q]
theorem mgE_comm {s F t G : Rows} (h1 : Sv s F) (h2 : Sv t G) : mgE4 s F t G = mgE4 t G s F ∧ (mgE4 s F t G = 0 → jnR s t = jnR t s ∧ jnR F G = jnR G F) := by
  unfold mgE4
  cases v1 : surB s F
  · rw [Bool.false_and, Bool.and_false]; exact ⟨rfl, fun h => by cases h⟩
  cases v2 : surB t G
  · rw [Bool.false_and, Bool.and_false]; exact ⟨rfl, fun h => by cases h⟩
  obtain ⟨a1, a2⟩ := val_ris v1
  obtain ⟨b1, b2⟩ := val_ris v2
  have e1 := lie_iff h1 h2 v1 v2
  have e2 := lie_iff h2 h1 v2 v1
  have e : lieB s F t G = lieB t G s F := by
    have : lieB s F t G = false ↔ lieB t G s F = false := by rw [e1, e2]; exact ⟨NoLie.symm, NoLie.symm⟩
    cases q : lieB s F t G <;> cases r : lieB t G s F <;> simp [q, r] at this ⊢
  rw [← e]
  cases q : lieB s F t G with
  | true => exact ⟨rfl, fun h => by cases h⟩
  | false =>
    have n := e1.1 q
    rw [jn_comm a1 b1 n.cs, jn_comm a2 b2 n.cf]
    exact ⟨rfl, fun _ => ⟨rfl, rfl⟩⟩
theorem mgE_self {s F : Rows} (h : Sv s F) (v : surB s F = true) : mgE4 s F s F = 0 ∧ jnR s s = s ∧ jnR F F = F := by
  obtain ⟨a1, a2⟩ := val_ris v
  obtain ⟨⟨f1, f2⟩, f3, f4, f5⟩ := sur_iff.1 v
  have n : lieB s F s F = false := (lie_iff h h v v).2 ⟨fun x hx y hy e => ris_inj a1 hx hy e, fun x hx y hy e => ris_inj a2 hx hy e, fun x hx y hy e => f5 x hx y hy e.symm, fun x hx y hy e => f5 x hx y hy e.symm⟩
  refine ⟨?_, jn_self a1, jn_self a2⟩
  unfold mgE4
  rw [v, n, Bool.and_self, if_pos rfl, if_neg (by decide), jn_self a1, jn_self a2, if_neg (by omega)]
theorem jn_cur {s t : Rows} (hs : RisP s) (h : CompL s t) {x : List D} : (x ∈ s → x ∈ curR (jnR s t) → x ∈ curR s) ∧ (x ∈ t → x ∈ curR (jnR s t) → x ∈ curR t) := by
  refine ⟨fun hx hc => ?_, fun hx hc => ?_⟩
  · rw [cur_mem, repl_not] at hc ⊢
    exact ⟨hx, fun y hy => hc.2 y ((jn_mem hs h).2 (.inl hy))⟩
  · rw [cur_mem, repl_not] at hc ⊢
    exact ⟨hx, fun y hy => hc.2 y ((jn_mem hs h).2 (.inr hy))⟩
theorem mg_three {s F t G p H : Rows} (h1 : Sv s F) (h2 : Sv t G) (h3 : Sv p H) (hl : s.length + t.length + p.length + (F.length + G.length + H.length) ≤ 300) (he : mgE4 s F t G = 0) :
    (mgE4 t G p H ≠ 0 → mgE4 (jnR s t) (jnR F G) p H ≠ 0) ∧ (mgE4 t G p H = 0 → mgE4 (jnR s t) (jnR F G) p H = mgE4 s F (jnR t p) (jnR G H) ∧
      (mgE4 (jnR s t) (jnR F G) p H = 0 → jnR (jnR s t) p = jnR s (jnR t p) ∧ jnR (jnR F G) H = jnR F (jnR G H))) := by
  have l1 := @jnR_len s t
  have l2 := @jnR_len F G
  have l3 := @jnR_len t p
  have l4 := @jnR_len G H
  obtain ⟨⟨v1, v2⟩, n12⟩ := (mgE_small (by omega)).2.2.1 he
  have n12 := (lie_iff h1 h2 v1 v2).1 n12
  have va := jn_valid v1 v2 n12 (by omega)
  have ha := h1.jn h2
  obtain ⟨r1, r2⟩ := val_ris v1
  obtain ⟨r3, r4⟩ := val_ris v2
  have key : ∀ (v3 : surB p H = true), (lieB (jnR s t) (jnR F G) p H = false ↔ NoLie s F p H ∧ NoLie t G p H) := fun v3 => by
    rw [lie_iff ha h3 va v3]
    constructor
    · rintro ⟨a, b, c, d⟩
      have a := (comp_jn r1 n12.cs).1 a
      have b := (comp_jn r2 n12.cf).1 b
      have c := (dis_jn r1 n12.cs).1 c
      have d := (dis_jn r2 n12.cf).1 d.symm
      exact ⟨⟨a.1, b.1, c.1, d.1.symm⟩, ⟨a.2, b.2, c.2, d.2.symm⟩⟩
    · rintro ⟨⟨a, b, c, d⟩, ⟨a', b', c', d'⟩⟩
      exact ⟨(comp_jn r1 n12.cs).2 ⟨a, a'⟩, (comp_jn r2 n12.cf).2 ⟨b, b'⟩, (dis_jn r1 n12.cs).2 ⟨c, c'⟩, ((dis_jn r2 n12.cf).2 ⟨d.symm, d'.symm⟩).symm⟩
  constructor
  · intro hf h0
    obtain ⟨⟨_, v3⟩, n⟩ := (mgE_small (by omega)).2.2.1 h0
    exact hf ((mgE_small (by omega)).2.2.2 ⟨⟨v2, v3⟩, (lie_iff h2 h3 v2 v3).2 ((key v3).1 n).2⟩)
  · intro hf
    obtain ⟨⟨_, v3⟩, n23⟩ := (mgE_small (by omega)).2.2.1 hf
    have n23 := (lie_iff h2 h3 v2 v3).1 n23
    obtain ⟨r5, r6⟩ := val_ris v3
    have vd := jn_valid v2 v3 n23 (by omega)
    have hd := h2.jn h3
    have key2 : lieB s F (jnR t p) (jnR G H) = false ↔ NoLie s F p H := by
      rw [lie_iff h1 hd v1 vd]
      constructor
      · rintro ⟨a, b, c, d⟩
        have a := (comp_jn r3 n23.cs).1 a.symm
        have b := (comp_jn r4 n23.cf).1 b.symm
        have c := (dis_jn r4 n23.cf).1 c.symm
        have d := (dis_jn r3 n23.cs).1 d
        exact ⟨a.2.symm, b.2.symm, c.2.symm, d.2⟩
      · rintro ⟨a, b, c, d⟩
        exact ⟨((comp_jn r3 n23.cs).2 ⟨n12.cs.symm, a.symm⟩).symm, ((comp_jn r4 n23.cf).2 ⟨n12.cf.symm, b.symm⟩).symm, ((dis_jn r4 n23.cf).2 ⟨n12.ds.symm, c.symm⟩).symm, (dis_jn r3 n23.cs).2 ⟨n12.dt, d⟩⟩
    have z1 := mgE_small (s := jnR s t) (F := jnR F G) (t := p) (G := H) (by omega)
    have z2 := mgE_small (s := s) (F := F) (t := jnR t p) (G := jnR G H) (by omega)
    have same : mgE4 (jnR s t) (jnR F G) p H = 0 ↔ mgE4 s F (jnR t p) (jnR G H) = 0 := by
      rw [z1.2.2, z2.2.2, key v3, key2]
      exact ⟨fun h => ⟨⟨v1, vd⟩, h.2.1⟩, fun h => ⟨⟨va, v3⟩, h.2, n23⟩⟩
    have nz1 : mgE4 (jnR s t) (jnR F G) p H ≠ 1 := fun h => z1.1.1 h ⟨va, v3⟩
    have nz2 : mgE4 s F (jnR t p) (jnR G H) ≠ 1 := fun h => z2.1.1 h ⟨v1, vd⟩
    refine ⟨?_, fun h0 => ?_⟩
    · rcases z1.2.1 with a | a | a
      · rw [a, same.1 a]
      · exact absurd a nz1
      · rcases z2.2.1 with b | b | b
        · rw [same.2 b, b]
        · exact absurd b nz2
        · rw [a, b]
    · have n13 := ((key v3).1 ((z1.2.2.1 h0).2)).1
      exact ⟨jn_assoc r1 r3 r5 n12.cs n23.cs n13.cs, jn_assoc r2 r4 r6 n12.cf n23.cf n13.cf⟩
end Go.Proofs.YtldbejmgalhdaaaGreat
/- Chapter 09: the law SurveyMerged. -/
namespace Go.Proofs.YtldbejmgalhdaaaGreat
open Go.RowKit
theorem okJ_at {p : List D → List D → Bool} {a b : Rows} (h : okJ p a b = true) {j : Nat} (hj : j < b.length) (hB : isB a (cI b[j] 0) = true) : p (getK a (cI b[j] 0)) b[j] = true := by
  cases q : p (getK a (cI b[j] 0)) b[j] with
  | true => rfl
  | false => rw [okJ_false hj hB q] at h; cases h
theorem mgE_ok {s F t G : Rows} (h : mgE4 s F t G = 0) : (surB s F = true ∧ surB t G = true) ∧ (okJ eqS7 s t = true ∧ okJ sameR9 F G = true ∧ shdB s G = false ∧ shdB t F = false) ∧ (jnR s t).length + (jnR F G).length ≤ 300 := by
  unfold mgE4 at h
  by_cases q : surB s F = true ∧ surB t G = true
  · rw [q.1, q.2, Bool.true_and, if_pos rfl] at h
    cases r : lieB s F t G with
    | true => rw [r, if_pos rfl] at h; cases h
    | false =>
      rw [r, if_neg (by decide)] at h
      unfold lieB at r
      simp only [Bool.not_eq_false', Bool.and_eq_true, Bool.not_eq_true'] at r
      refine ⟨q, ⟨r.1, r.2.1, r.2.2.1, r.2.2.2⟩, ?_⟩
      by_cases l : ((jnR s t).length : Int) + (jnR F G).length > 300
      · rw [if_pos l] at h; cases h
      · omega
  · rw [if_neg (by rw [Bool.and_eq_true]; exact q)] at h; cases h
theorem mge_four (s F t G : Rows) : mgE [.l s, .l F, .l t, .l G] = mgE4 s F t G := rfl
theorem mgs_four (s F t G : Rows) : mgS [.l s, .l F, .l t, .l G] = if mgE4 s F t G = 0 then jnR s t else [] := rfl
theorem mgf_four (s F t G : Rows) : mgF [.l s, .l F, .l t, .l G] = if mgE4 s F t G = 0 then jnR F G else [] := rfl
theorem KVhi160 (W : World) (ds l : List D) : (envOf KVh W ds).fi 160 l = scE l := by simp only [envOf, KVh, KVg, KVf, KVe, KVd, KVc]
theorem KVhb160 (W : World) (ds l : List D) : (envOf KVh W ds).fb 160 l = hasL9 l := by simp only [envOf, KVh, KVg, KVf, KVe, KVd, KVc]
theorem KVhd1 (W : World) (ds l : List D) : (envOf KVh W ds).fd 1 l = idsR l := by simp only [envOf, KVh, KVg, KVf, KVe, KVd, KVc]
theorem KVhb150 (W : World) (ds l : List D) : (envOf KVh W ds).fb 150 l = surL l := by simp only [envOf, KVh, KVg, KVf, KVe, KVd, KVc, KVb]
theorem KVhb136 (W : World) (ds l : List D) : (envOf KVh W ds).fb 136 l = risL l := by simp only [envOf, KVh, KVg, KVf, KVe, KVd, KVc, KVb, KVa]
theorem KVhi135 (W : World) (ds l : List D) : (envOf KVh W ds).fi 135 l = lowL l := by simp only [envOf, KVh, KVg, KVf, KVe, KVd, KVc, KVb, KVa]
theorem KVhb135 (W : World) (ds l : List D) : (envOf KVh W ds).fb 135 l = isL l := by simp only [envOf, KVh, KVg, KVf, KVe, KVd, KVc, KVb, KVa]
theorem KVhb129 (W : World) (ds l : List D) : (envOf KVh W ds).fb 129 l = sameL l := by simp only [envOf, KVh, KVg, KVf, KVe, KVd, KVc, KVb, KVa, K80, K79]
theorem KVhb200 (W : World) (ds l : List D) : (envOf KVh W ds).fb 200 l = jsK l := by simp only [envOf, KVh, KVg]
theorem KVhb201 (W : World) (ds l : List D) : (envOf KVh W ds).fb 201 l = shdL l := by simp only [envOf, KVh, KVg]
theorem KVhd4 (W : World) (ds l : List D) : (envOf KVh W ds).fd 4 l = jsR l := by simp only [envOf, KVh, KVg]
theorem KVhi210 (W : World) (ds l : List D) : (envOf KVh W ds).fi 210 l = mgE l := by simp only [envOf, KVh]
theorem KVhb210 (W : World) (ds l : List D) : (envOf KVh W ds).fb 210 l = eq4 l := by simp only [envOf, KVh]
theorem KVhd5 (W : World) (ds l : List D) : (envOf KVh W ds).fd 5 l = mgS l := by simp only [envOf, KVh]
theorem KVhd6 (W : World) (ds l : List D) : (envOf KVh W ds).fd 6 l = mgF l := by simp only [envOf, KVh]
set_option maxHeartbeats 4000000 in
theorem gLawMer : Gives Tryz.prog 8 [suv, suv, suv] (fun _ => .bool true) := by
  refine GivesIf.all (fn_gives KVh (by kernel_rfl) (fun ρ h => ctVA_ok (Sees.of h 220) (SeesD.of h 7)) (by kernel_rfl) trLawMer_is trLawMer_low (by decide) (fun W vals ds hr _ => ?_))
  obtain ⟨vals2, ds2, hr2, sh2⟩ := suv_shift hr
  obtain ⟨vals3, ds3, hr3, sh3⟩ := suv_shift hr2
  have h1 : Sv (rAt ds 0) (rAt ds 1) := ⟨suv_rows hr, suv_rowF hr⟩
  have h2 : Sv (rAt ds 2) (rAt ds 3) := by rw [sh2 0, sh2 1]; exact ⟨suv_rows hr2, suv_rowF hr2⟩
  have h3 : Sv (rAt ds 4) (rAt ds 5) := by rw [sh2 2, sh2 3, sh3 0, sh3 1]; exact ⟨suv_rows hr3, suv_rowF hr3⟩
  clear hr hr2 hr3 sh2 sh3
  simp only [trLawMer, TT.sat_ite, TT.sat_ob, TT.sat_ret, Ob.ok, B.ev, E.ev, X.ev, AL.ev, cmp_t, cmpP, envOf_i, envOf_b, envOf_d, put_i, put_b, put_d, put_fi, put_fb, put_fd, Bool.not_eq_true', Bool.not_eq_false', cmp_f, V.plain, V2.plain, S.plain, S0.plain, V.val, V2.val, S.val, S0.val, true_and, and_self]
  generalize e0 : rAt ds 0 = s at *
  generalize e1 : rAt ds 1 = F at *
  generalize e2 : rAt ds 2 = t at *
  generalize e3 : rAt ds 3 = G at *
  generalize e4 : rAt ds 4 = p at *
  generalize e5 : rAt ds 5 = H at *
  refine ⟨fun b0 => ⟨fun _ => trivial, fun b1 => ⟨fun b2 => ⟨fun _ => trivial, fun b3 => ⟨fun b4 => ⟨fun _ => trivial, fun b5 => ?_⟩, fun _ => trivial⟩⟩, fun _ => trivial⟩⟩, fun _ => trivial⟩
  obtain ⟨c1, c2⟩ := mgE_comm h1 h2
  have hsm := mgE_small (s := s) (F := F) (t := t) (G := G) (by omega)
  refine TT.sat_join (fun v => True) (fun v hv => ?_) (fun v hv hR => ?_)
  · simp only [TT.sat_ret, TT.sat_ite, TT.sat_ob, TT.sat_next, TT.sat_stuck, put_i, put_b, put_d, put_fi, put_fb, put_fd, Ob.ok, B.ev, E.ev, X.ev, AL.ev, cmp_t, cmp_f, arEv, V.plain, V2.plain, S.plain, S0.plain, V.val, V2.val, S.val, S0.val, bV, iV, List.all_cons, List.all_nil, Bool.and_true, Bool.and_self, envOf_i, envOf_b, envOf_d, List.map_cons, List.map_nil, true_and, Bool.not_eq_true', Bool.not_eq_false', Bool.not_not, Bool.and_eq_true, and_f, cell_lg, cell_lb, cell_lr, cmpP, val_i, val_b, val_d, aget, Nat.reduceBEq, beq_self_eq_true, Bool.false_eq_true, if_true, if_false, Nat.reduceLT, Nat.reduceSub, Nat.sub_self, Nat.lt_irrefl, e0, e1, e2, e3, KVhb210, KVhd5, KVhd6, mgs_four, mgf_four, eq4_four]
    rw [← c1]
    by_cases he : mgE4 s F t G = 0
    · rw [if_pos he, if_pos he, if_pos he, if_pos he, ← (c2 he).1, ← (c2 he).2, rowsEqb_self, rowsEqb_self]
      exact ⟨⟨rfl, rfl⟩, trivial⟩
    · rw [if_neg he, if_neg he, if_neg he, if_neg he]
      exact ⟨⟨rfl, rfl⟩, trivial⟩
  simp only [TT.sat_ret, TT.sat_ite, TT.sat_ob, TT.sat_next, TT.sat_stuck, put_i, put_b, put_d, put_fi, put_fb, put_fd, Ob.ok, B.ev, E.ev, X.ev, AL.ev, cmp_t, cmp_f, arEv, V.plain, V2.plain, S.plain, S0.plain, V.val, V2.val, S.val, S0.val, bV, iV, List.all_cons, List.all_nil, Bool.and_true, Bool.and_self, envOf_i, envOf_b, envOf_d, List.map_cons, List.map_nil, true_and, Bool.not_eq_true', Bool.not_eq_false', Bool.not_not, Bool.and_eq_true, and_f, cell_lg, cell_lb, cell_lr, cmpP, val_i, val_b, val_d, aget, Nat.reduceBEq, beq_self_eq_true, Bool.false_eq_true, if_true, if_false, Nat.reduceLT, Nat.reduceSub, Nat.sub_self, Nat.lt_irrefl, e0, e1, e2, e3, e4, e5, KVhi210, mge_four]
  rw [← c1]
  refine ⟨fun he => ⟨fun _ => ⟨fun _ => trivial, fun h18 => ?_⟩, fun h => absurd rfl h⟩, fun he => ?_⟩
  · rcases hsm.2.1 with a | a | a
    · exact absurd a he
    · exact absurd a h18
    · rw [a]; rfl
  have he : mgE4 s F t G = 0 := Decidable.not_not.mp he
  obtain ⟨⟨v1, v2⟩, n12⟩ := hsm.2.2.1 he
  have n12 := (lie_iff h1 h2 v1 v2).1 n12
  have l1 := @jnR_len s t
  have l2 := @jnR_len F G
  have va := jn_valid v1 v2 n12 (by omega)
  have ha := h1.jn h2
  obtain ⟨r1, r2⟩ := val_ris v1
  obtain ⟨r3, r4⟩ := val_ris v2
  obtain ⟨ra, rb⟩ := val_ris va
  obtain ⟨m1, m2, m3⟩ := mgE_self h1 v1
  have z3 := mg_three h1 h2 h3 (by omega) he
  generalize hA : jnR s t = A1 at *
  generalize hB : jnR F G = B1 at *
  have sA : mgS [.l s, .l F, .l t, .l G] = A1 := by rw [mgs_four, if_pos he, hA]
  have sB : mgF [.l s, .l F, .l t, .l G] = B1 := by rw [mgf_four, if_pos he, hB]
  have sO : mgS [.l s, .l F, .l s, .l F] = s := by rw [mgs_four, if_pos m1, m2]
  have sP : mgF [.l s, .l F, .l s, .l F] = F := by rw [mgf_four, if_pos m1, m3]
  refine TT.sat_join (fun v => v.b 1 = true) (fun w hw => ?_) (fun w hw hR => ?_)
  · simp only [TT.sat_ret, TT.sat_ite, TT.sat_ob, TT.sat_next, TT.sat_stuck, put_i, put_b, put_d, put_fi, put_fb, put_fd, Ob.ok, B.ev, E.ev, X.ev, AL.ev, cmp_t, cmp_f, arEv, V.plain, V2.plain, S.plain, S0.plain, V.val, V2.val, S.val, S0.val, bV, iV, List.all_cons, List.all_nil, Bool.and_true, Bool.and_self, envOf_i, envOf_b, envOf_d, List.map_cons, List.map_nil, true_and, Bool.not_eq_true', Bool.not_eq_false', Bool.not_not, Bool.and_eq_true, and_f, cell_lg, cell_lb, cell_lr, cmpP, val_i, val_b, val_d, aget, Nat.reduceBEq, beq_self_eq_true, Bool.false_eq_true, if_true, if_false, Nat.reduceLT, Nat.reduceSub, Nat.sub_self, Nat.lt_irrefl, e0, e1, e2, e3, KVhi210, mge_four, KVhi160, KVhb150, sur_two, sce_two, KVhb210, KVhd5, KVhd6, sA, sB, sO, sP, eq4_four, rowsEqb_self, v1, v2, va, he, m1, ← c1]
    simp
  have inA : ∀ x, x ∈ A1 ↔ x ∈ s ∨ x ∈ t := fun x => by rw [← hA]; exact jn_mem r1 n12.cs
  have cA : ∀ x, (x ∈ s → x ∈ curR A1 → x ∈ curR s) ∧ (x ∈ t → x ∈ curR A1 → x ∈ curR t) := fun x => by rw [← hA]; exact jn_cur r1 n12.cs
  refine TT.sat_loop (fun v => ∃ k : Nat, v.i 1 = k ∧ k ≤ s.length ∧ v.b 0 = true) (fun v => s.length - (v.i 1).toNat)
    ⟨0, by simp [val_i, aget, E.ev], by omega, by simp [val_b, aget, B.ev, put_b, hR]⟩ (fun a1 ha1 => ?_)
  obtain ⟨k, k0, k1, k2⟩ := ha1
  simp only [TT.sat_ret, TT.sat_ite, TT.sat_ob, TT.sat_next, TT.sat_stuck, put_i, put_b, put_d, put_fi, put_fb, put_fd, Ob.ok, B.ev, E.ev, X.ev, AL.ev, cmp_t, cmp_f, arEv, V.plain, V2.plain, S.plain, S0.plain, V.val, V2.val, S.val, S0.val, bV, iV, List.all_cons, List.all_nil, Bool.and_true, Bool.and_self, envOf_i, envOf_b, envOf_d, List.map_cons, List.map_nil, true_and, Bool.not_eq_true', Bool.not_eq_false', Bool.not_not, Bool.and_eq_true, and_f, cell_lg, cell_lb, cell_lr, cmpP, val_i, val_b, val_d, aget, Nat.reduceBEq, beq_self_eq_true, Bool.false_eq_true, if_true, if_false, Nat.reduceLT, Nat.reduceSub, Nat.sub_self, Nat.lt_irrefl, k0, k2, e0, e1, e2, e3, KVhd1, KVhd5, KVhd6, sA, sB, ids_two, v1, va, KVhb160, has_two]
  refine ⟨fun hc => ?_, fun hc => ?_⟩
  · have hk : k < s.length := by omega
    have hm := List.getElem_mem hk
    rw [wrap_in ((k : Int) + 1) (by omega) (by omega), lg_cI hk]
    have hA1 := has_ids ra ((inA _).2 (.inl hm))
    have hS1 := has_ids r1 hm
    have hc1 := (cA s[k]).1 hm
    have GOOD : ∀ q : Prop, q → (∃ n : Nat, (k : Int) + 1 = n ∧ n ≤ s.length ∧ q) ∧ s.length - ((k : Int) + 1).toNat < s.length - (k : Int).toNat := fun q hq => ⟨⟨k + 1, rfl, by omega, hq⟩, by omega⟩
    refine ⟨by omega, by omega, ⟨fun _ => ⟨fun h => GOOD _ trivial, fun h => GOOD _ (hS1.2 (hc1 (hA1.1 h)))⟩, fun h => (by cases h)⟩⟩
  refine TT.sat_loop (fun v => ∃ k : Nat, v.i 1 = k ∧ k ≤ t.length ∧ v.b 0 = true) (fun v => t.length - (v.i 1).toNat)
    ⟨0, by simp [val_i, aget, E.ev], by omega, by simp [val_b, aget, B.ev, put_b, k2]⟩ (fun a2 ha2 => ?_)
  obtain ⟨j, j0, j1, j2⟩ := ha2
  simp only [TT.sat_ret, TT.sat_ite, TT.sat_ob, TT.sat_next, TT.sat_stuck, put_i, put_b, put_d, put_fi, put_fb, put_fd, Ob.ok, B.ev, E.ev, X.ev, AL.ev, cmp_t, cmp_f, arEv, V.plain, V2.plain, S.plain, S0.plain, V.val, V2.val, S.val, S0.val, bV, iV, List.all_cons, List.all_nil, Bool.and_true, Bool.and_self, envOf_i, envOf_b, envOf_d, List.map_cons, List.map_nil, true_and, Bool.not_eq_true', Bool.not_eq_false', Bool.not_not, Bool.and_eq_true, and_f, cell_lg, cell_lb, cell_lr, cmpP, val_i, val_b, val_d, aget, Nat.reduceBEq, beq_self_eq_true, Bool.false_eq_true, if_true, if_false, Nat.reduceLT, Nat.reduceSub, Nat.sub_self, Nat.lt_irrefl, j0, j2, e0, e1, e2, e3, e4, e5, KVhd1, KVhd5, KVhd6, sA, sB, ids_two, v2, va, KVhb160, has_two, KVhi210, mge_four, KVhb150, sur_two, KVhb136, ris_one]
  refine ⟨fun hc => ?_, fun hc => ?_⟩
  · have hj : j < t.length := by omega
    have hm := List.getElem_mem hj
    rw [wrap_in ((j : Int) + 1) (by omega) (by omega), lg_cI hj]
    have hA1 := has_ids ra ((inA _).2 (.inr hm))
    have hS1 := has_ids r3 hm
    have hc1 := (cA t[j]).2 hm
    have GOOD : ∀ q : Prop, q → (∃ n : Nat, (j : Int) + 1 = n ∧ n ≤ t.length ∧ q) ∧ t.length - ((j : Int) + 1).toNat < t.length - (j : Int).toNat := fun q hq => ⟨⟨j + 1, rfl, by omega, hq⟩, by omega⟩
    refine ⟨by omega, by omega, ⟨fun _ => ⟨fun h => GOOD _ trivial, fun h => GOOD _ (hS1.2 (hc1 (hA1.1 h)))⟩, fun h => (by cases h)⟩⟩
  have hfew : s.length + t.length + p.length + (F.length + G.length + H.length) ≤ 300 := by omega
  refine ⟨fun hc0 => ⟨fun h => (by cases h), fun _ => ⟨fun h => ?_, fun v3 => ?_⟩⟩, fun hc0 => ?_⟩
  · exact absurd ((mgE_ok hc0).1.2) (by rw [h]; decide)
  · obtain ⟨r5, r6⟩ := val_ris v3
    obtain ⟨⟨_, _⟩, ⟨k1', k2', k3', k4'⟩, kl⟩ := mgE_ok hc0
    refine ⟨risP_iff.2 ra, risP_iff.2 r5, by omega, by omega, ?_⟩
    refine TT.sat_loop (fun v => ∃ j : Nat, v.i 1 = j ∧ j ≤ H.length ∧ v.d 2 = jnR B1 (H.take j)) (fun v => H.length - (v.i 1).toNat)
      ⟨0, by simp [val_i, aget, E.ev], by omega, by simp [val_d, aget, X.ev, AL.ev, envOf_d, put_d, put_fd, e0, e1, e2, e3, KVhd6, sB, jnR, newJ, insL]⟩ (fun vn hvn => ?_)
    obtain ⟨n, n0, n1, n2⟩ := hvn
    simp only [TT.sat_ret, TT.sat_ite, TT.sat_ob, TT.sat_next, TT.sat_stuck, put_i, put_b, put_d, put_fi, put_fb, put_fd, Ob.ok, B.ev, E.ev, X.ev, AL.ev, cmp_t, cmp_f, arEv, V.plain, V2.plain, S.plain, S0.plain, V.val, V2.val, S.val, S0.val, bV, iV, List.all_cons, List.all_nil, Bool.and_true, Bool.and_self, envOf_i, envOf_b, envOf_d, List.map_cons, List.map_nil, true_and, Bool.not_eq_true', Bool.not_eq_false', Bool.not_not, Bool.and_eq_true, and_f, cell_lg, cell_lb, cell_lr, cmpP, val_i, val_b, val_d, aget, Nat.reduceBEq, beq_self_eq_true, Bool.false_eq_true, if_true, if_false, Nat.reduceLT, Nat.reduceSub, Nat.sub_self, Nat.lt_irrefl, n0, e0, e1, e2, e3, e4, e5, KVhb136, KVhb135, KVhi135, KVhb129, KVhb200, KVhb201, KVhd4, KVhd5, KVhd6, KVhi210, KVhb150, KVhb210, mge_four, low_two, ris_one, is_two, same_18, jsk_two, shd_two, jsr_two, sur_two, eq4_four, sA, sB]
    refine ⟨fun hc => ?_, fun hc => ?_⟩
    · have hj : n < H.length := by omega
      obtain ⟨s1, s2, s3, s4, s5⟩ := join_step rb r6 hj n2
      have hw1 : IntKind.i64.wrap ((n : Int) + 1) = ((n + 1 : Nat) : Int) := by rw [wrap_in _ (by omega) (by omega)]; rfl
      have hm : H.length - (((n + 1 : Nat) : Int)).toNat < H.length - (n : Int).toNat := by omega
      have hlo := (lowR_spec (vn.d 2) (cI H[n] 0)).1
      have hins := insF_sub (vn.d 2) H[n]
      have h9j := (fun x hx => (h3.f9 x hx).1) _ (List.getElem_mem hj)
      simp only [hw1, lg_cI hj, lr_cR hj, s3]
      refine ⟨by omega, by omega, risP_iff.2 s1, fun hB => ⟨by omega, by omega, by omega, ⟨n + 1, rfl, by omega, ?_⟩, hm⟩, fun hB => ?_⟩
      · rw [← s5 hB, ← hins]
        congr 2
        rw [List.append_nil, List.append_nil]
        congr 1
        exact h9j.symm
      · have hBo : isB (vn.d 2) (cI H[n] 0) = true := by rw [s3]; exact hB
        have hlt := isB_low hBo
        obtain ⟨s6, s7⟩ := s4 hB
        have hsame := okJ_at k2' hj hB
        unfold sameR9 at hsame
        simp only [lg_getK hBo, lr_getK hBo, s6, hsame]
        exact ⟨by omega, by omega, fun h => (by cases h), fun _ => ⟨⟨n + 1, rfl, by omega, s7⟩, hm⟩⟩
    have hj : n = H.length := by omega
    rw [hj, List.take_length] at n2
    simp only [n2]
    have y1 := @jnR_len A1 p
    have y2 := @jnR_len B1 H
    rw [k1', k3', k4', if_pos rfl, wrap_in (((jnR A1 p).length : Int) + ((jnR B1 H).length : Nat)) (by omega) (by omega)]
    refine ⟨fun h => (by cases h), fun _ => ⟨risP_iff.2 r6, fun h => (by cases h), fun _ => ⟨risP_iff.2 rb, fun h => (by cases h), fun _ => ⟨fun h => (by omega), fun _ => ⟨fun hf => absurd hc0 (z3.1 hf), fun hf => ?_⟩⟩⟩⟩⟩
    have hf : mgE4 t G p H = 0 := Decidable.not_not.mp hf
    obtain ⟨w1, w2⟩ := z3.2 hf
    obtain ⟨w3, w4⟩ := w2 hc0
    have sS : mgS [.l t, .l G, .l p, .l H] = jnR t p := by rw [mgs_four, if_pos hf]
    have sH : mgF [.l t, .l G, .l p, .l H] = jnR G H := by rw [mgf_four, if_pos hf]
    have y3 := @jnR_len t p
    have y4 := @jnR_len G H
    have hd2 := h2.jn h3
    simp only [sS, sH]
    generalize jnR t p = S2 at *
    generalize jnR G H = H2 at *
    have hd0 : mgE4 s F S2 H2 = 0 := by rw [← w1]; exact hc0
    obtain ⟨⟨_, vd⟩, ⟨q1, q2, q3, q4⟩, ql⟩ := mgE_ok hd0
    obtain ⟨r7, r8⟩ := val_ris vd
    refine ⟨fun _ => ⟨fun h => (by rw [v1] at h; cases h), fun _ => ⟨fun h => (by rw [vd] at h; cases h), fun _ => ⟨risP_iff.2 r1, risP_iff.2 r7, by omega, by omega, ?_⟩⟩⟩, fun h => absurd hd0 h⟩
    refine TT.sat_loop (fun v => ∃ j : Nat, v.i 1 = j ∧ j ≤ H2.length ∧ v.d 2 = jnR F (H2.take j)) (fun v => H2.length - (v.i 1).toNat)
      ⟨0, by simp [val_i, aget, E.ev], by omega, by simp [val_d, aget, X.ev, AL.ev, envOf_d, put_d, put_fd, e0, e1, e2, e3, KVhd6, sB, jnR, newJ, insL, sH]⟩ (fun vm hvm => ?_)
    obtain ⟨m, m0, m1, m2⟩ := hvm
    simp only [TT.sat_ret, TT.sat_ite, TT.sat_ob, TT.sat_next, TT.sat_stuck, put_i, put_b, put_d, put_fi, put_fb, put_fd, Ob.ok, B.ev, E.ev, X.ev, AL.ev, cmp_t, cmp_f, arEv, V.plain, V2.plain, S.plain, S0.plain, V.val, V2.val, S.val, S0.val, bV, iV, List.all_cons, List.all_nil, Bool.and_true, Bool.and_self, envOf_i, envOf_b, envOf_d, List.map_cons, List.map_nil, true_and, Bool.not_eq_true', Bool.not_eq_false', Bool.not_not, Bool.and_eq_true, and_f, cell_lg, cell_lb, cell_lr, cmpP, val_i, val_b, val_d, aget, Nat.reduceBEq, beq_self_eq_true, Bool.false_eq_true, if_true, if_false, Nat.reduceLT, Nat.reduceSub, Nat.sub_self, Nat.lt_irrefl, m0, e0, e1, e2, e3, e4, e5, KVhb136, KVhb135, KVhi135, KVhb129, KVhb200, KVhb201, KVhd4, KVhd5, KVhd6, KVhi210, KVhb150, KVhb210, mge_four, low_two, ris_one, is_two, same_18, jsk_two, shd_two, jsr_two, sur_two, eq4_four, sA, sB, sS, sH, n2]
    refine ⟨fun hc => ?_, fun hc => ?_⟩
    · have hj : m < H2.length := by omega
      obtain ⟨s1, s2, s3, s4, s5⟩ := join_step r2 r8 hj m2
      have hw1 : IntKind.i64.wrap ((m : Int) + 1) = ((m + 1 : Nat) : Int) := by rw [wrap_in _ (by omega) (by omega)]; rfl
      have hm : H2.length - (((m + 1 : Nat) : Int)).toNat < H2.length - (m : Int).toNat := by omega
      have hlo := (lowR_spec (vm.d 2) (cI H2[m] 0)).1
      have hins := insF_sub (vm.d 2) H2[m]
      have h9j := (fun x hx => (hd2.f9 x hx).1) _ (List.getElem_mem hj)
      simp only [hw1, lg_cI hj, lr_cR hj, s3]
      refine ⟨by omega, by omega, risP_iff.2 s1, fun hB => ⟨by omega, by omega, by omega, ⟨m + 1, rfl, by omega, ?_⟩, hm⟩, fun hB => ?_⟩
      · rw [← s5 hB, ← hins]
        congr 2
        rw [List.append_nil, List.append_nil]
        congr 1
        exact h9j.symm
      · have hBo : isB (vm.d 2) (cI H2[m] 0) = true := by rw [s3]; exact hB
        have hlt := isB_low hBo
        obtain ⟨s6, s7⟩ := s4 hB
        have hsame := okJ_at q2 hj hB
        unfold sameR9 at hsame
        simp only [lg_getK hBo, lr_getK hBo, s6, hsame]
        exact ⟨by omega, by omega, fun h => (by cases h), fun _ => ⟨⟨m + 1, rfl, by omega, s7⟩, hm⟩⟩
    have hj : m = H2.length := by omega
    rw [hj, List.take_length] at m2
    simp only [m2]
    have y5 := @jnR_len s S2
    have y6 := @jnR_len F H2
    rw [q1, q3, q4, k1', if_pos rfl, if_pos rfl, wrap_in (((jnR s S2).length : Int) + ((jnR F H2).length : Nat)) (by omega) (by omega)]
    exact ⟨fun h => (by cases h), fun _ => ⟨risP_iff.2 r8, fun h => (by cases h), fun _ => ⟨risP_iff.2 r2, fun h => (by cases h), fun _ => ⟨fun h => (by omega), fun _ => ⟨fun _ => ⟨⟨by rw [w3, rowsEqb_self], by rw [w4, rowsEqb_self]⟩, trivial⟩, fun h => (by rw [j2] at h; cases h)⟩⟩⟩⟩⟩
  · refine ⟨fun hf => ⟨fun _ => ?_, fun h => (by cases h)⟩, fun hf => ?_⟩
    · simp [cmpEv, hc0]
    · have hf : mgE4 t G p H = 0 := Decidable.not_not.mp hf
      obtain ⟨w1, _⟩ := z3.2 hf
      have sS : mgS [.l t, .l G, .l p, .l H] = jnR t p := by rw [mgs_four, if_pos hf]
      have sH : mgF [.l t, .l G, .l p, .l H] = jnR G H := by rw [mgf_four, if_pos hf]
      rw [sS, sH, ← w1]
      refine ⟨fun h => absurd h hc0, fun _ => ?_⟩
      exact ⟨fun _ => ⟨fun _ => ⟨by rw [KVhb210]; rfl, trivial⟩, fun h => absurd rfl h⟩, fun h => (by cases h)⟩
end Go.Proofs.YtldbejmgalhdaaaGreat
