/- MV, merged: TEf, Ef, Eg. -/
import Derived.Test.YtldbejmgalhdaaaGreatMU
set_option linter.unusedSimpArgs false
set_option linter.unusedVariables false
namespace Go.Proofs.YtldbejmgalhdaaaGreat
open Go.RowKit
def a6b:TT j6:=
(.ite (.not (.fn 76 (.i (.var 0) (.i (.var 1) (.i (.var 2) (.i (.var 3) (.i (.var 4) (.x (.var 5) (.i (.var 6) (.i (.var 7) (.x (.var 8) .nil)))))))))))
 (.ret ((.tup [(.one (.z (.bool (.lit false)))),(.one (.z (.int .i64 (.lit 1))))]),[],2))
 (.ite (.not (.fn 76 (.i (.var 9) (.i (.var 10) (.i (.var 11) (.i (.var 12) (.i (.var 13) (.x (.var 14) (.i (.var 15) (.i (.var 16) (.x (.var 17) .nil)))))))))))
 (.ret ((.tup [(.one (.z (.bool (.lit false)))),(.one (.z (.int .i64 (.lit 1))))]),[],2))
 (.ite (.cmp .eql (.var 1) (.lit 4))
 (.ite (.cmp .eql (.var 10) (.lit 4))
 (.ret ((.tup [(.one (.z (.bool (.lit true)))),(.one (.z (.int .i64 (.lit 0))))]),[],6))
 (.ite (.cmp .eql (.var 10) (.lit 3))
 (.ite (.cmp .eql (.var 10) (.lit 3))
 (.ret ((.tup [(.one (.z (.bool (.lit false)))),(.one (.z (.int .i64 (.lit 0))))]),[],6))
 (.ret ((.tup [(.one (.z (.bool (.lit false)))),(.one (.z (.int .i64 (.lit 0))))]),[],6)))
 (.ite (.cmp .eql (.var 10) (.lit 6))
 (.ret ((.tup [(.one (.z (.bool (.lit false)))),(.one (.z (.int .i64 (.lit 0))))]),[],6))
 (.ret ((.tup [(.one (.z (.bool (.lit false)))),(.one (.z (.int .i64 (.lit 0))))]),[],6)))))
 (.ite (.cmp .eql (.var 1) (.lit 3))
 (.ite (.cmp .eql (.var 1) (.lit 3))
 (.ite (.cmp .eql (.var 10) (.lit 4))
 (.ret ((.tup [(.one (.z (.bool (.lit true)))),(.one (.z (.int .i64 (.lit 0))))]),[],4))
 (.ite (.cmp .eql (.var 10) (.lit 3))
 (.ite (.cmp .eql (.var 10) (.lit 3))
 (.ite (.cmp .eql (.fn 112 (.x (.var 5) (.x (.var 14) .nil))) (.lit 0))
 (.ret ((.tup [(.one (.z (.bool (.fn 118 (.x (.var 5) (.x (.var 14) .nil)))))),(.one (.z (.int .i64 (.lit 0))))]),[],4))
 (.ret ((.tup [(.one (.z (.bool (.lit false)))),(.one (.z (.int .i64 (.lit 0))))]),[],4)))
 (.ite (.cmp .eql (.fn 114 (.x (.var 5) (.i (.var 11) (.i (.var 12) (.i (.var 13) .nil))))) (.lit 0))
 (.ret ((.tup [(.one (.z (.bool (.cmp .eql (.fn 113 (.x (.var 5) (.i (.var 11) (.i (.var 12) (.i (.var 13) .nil))))) (.lit 1))))),(.one (.z (.int .i64 (.lit 0))))]),[],5))
 (.ret ((.tup [(.one (.z (.bool (.lit false)))),(.one (.z (.int .i64 (.lit 0))))]),[],5))))
 (.ite (.cmp .eql (.var 10) (.lit 6))
 (.ite (.cmp .eql (.fn 112 (.x (.var 5) (.x (.var 14) .nil))) (.lit 0))
 (.ret ((.tup [(.one (.z (.bool (.fn 118 (.x (.var 5) (.x (.var 14) .nil)))))),(.one (.z (.int .i64 (.lit 0))))]),[],4))
 (.ret ((.tup [(.one (.z (.bool (.lit false)))),(.one (.z (.int .i64 (.lit 0))))]),[],4)))
 (.ite (.cmp .eql (.fn 114 (.x (.var 5) (.i (.var 11) (.i (.var 12) (.i (.var 13) .nil))))) (.lit 0))
 (.ret ((.tup [(.one (.z (.bool (.cmp .eql (.fn 113 (.x (.var 5) (.i (.var 11) (.i (.var 12) (.i (.var 13) .nil))))) (.lit 1))))),(.one (.z (.int .i64 (.lit 0))))]),[],5))
 (.ret ((.tup [(.one (.z (.bool (.lit false)))),(.one (.z (.int .i64 (.lit 0))))]),[],5))))))
 (.ite (.cmp .eql (.var 10) (.lit 4))
 (.ret ((.tup [(.one (.z (.bool (.lit true)))),(.one (.z (.int .i64 (.lit 0))))]),[],5))
 (.ite (.cmp .eql (.var 10) (.lit 3))
 (.ite (.cmp .eql (.var 10) (.lit 3))
 (.loop 0 6000 ⟨[(0,(.lit 0))],[],[]⟩
 (.ite (.cmp .lss (.var 6000) (.len (.var 14)))
 (.ob (.tru (.cmp .leq (.lit 0) (.var 6000)))
 (.ob (.tru (.cmp .lss (.var 6000) (.len (.var 14))))
 (.ite (.cmp .eql (.fn 13 (.i (.rd (.var 14) (.var 6000) 0) (.i (.rd (.var 14) (.var 6000) 1) (.i (.var 2) (.i (.var 3) (.i (.var 2) (.i (.var 3) (.i (.var 4) .nil)))))))) (.lit 0))
 (.ite (.not (.fn 7 (.i (.rd (.var 14) (.var 6000) 0) (.i (.rd (.var 14) (.var 6000) 1) (.i (.var 2) (.i (.var 3) (.i (.var 2) (.i (.var 3) (.i (.var 4) .nil)))))))))
 (.ret ((.tup [(.one (.z (.bool (.not (.cmp .geq (.var 6000) (.lit 0)))))),(.one (.z (.int .i64 (.lit 0))))]),[],9))
 (.next 0 ⟨[(0,(.ar .add .i64 (.var 6000) (.lit 1)))],[],[]⟩))
 (.ret ((.tup [(.one (.z (.bool (.not (.cmp .geq (.var 6000) (.lit 0)))))),(.one (.z (.int .i64 (.lit 0))))]),[],9)))))
 (.ret ((.tup [(.one (.z (.bool (.lit true)))),(.one (.z (.int .i64 (.lit 0))))]),[],9))))
 (.ite (.cmp .eql (.fn 111 (.i (.var 11) (.i (.var 12) (.i (.var 13) (.i (.var 2) (.i (.var 3) (.i (.var 4) .nil))))))) (.lit 0))
 (.ret ((.tup [(.one (.z (.bool (.fn 111 (.i (.var 11) (.i (.var 12) (.i (.var 13) (.i (.var 2) (.i (.var 3) (.i (.var 4) .nil)))))))))),(.one (.z (.int .i64 (.lit 0))))]),[],6))
 (.ret ((.tup [(.one (.z (.bool (.lit false)))),(.one (.z (.int .i64 (.lit 0))))]),[],6))))
 (.ite (.cmp .eql (.var 10) (.lit 6))
 (.loop 0 6000 ⟨[(0,(.lit 0))],[],[]⟩
 (.ite (.cmp .lss (.var 6000) (.len (.var 14)))
 (.ob (.tru (.cmp .leq (.lit 0) (.var 6000)))
 (.ob (.tru (.cmp .lss (.var 6000) (.len (.var 14))))
 (.ite (.cmp .eql (.fn 13 (.i (.rd (.var 14) (.var 6000) 0) (.i (.rd (.var 14) (.var 6000) 1) (.i (.var 2) (.i (.var 3) (.i (.var 2) (.i (.var 3) (.i (.var 4) .nil)))))))) (.lit 0))
 (.ite (.not (.fn 7 (.i (.rd (.var 14) (.var 6000) 0) (.i (.rd (.var 14) (.var 6000) 1) (.i (.var 2) (.i (.var 3) (.i (.var 2) (.i (.var 3) (.i (.var 4) .nil)))))))))
 (.ret ((.tup [(.one (.z (.bool (.not (.cmp .geq (.var 6000) (.lit 0)))))),(.one (.z (.int .i64 (.lit 0))))]),[],9))
 (.next 0 ⟨[(0,(.ar .add .i64 (.var 6000) (.lit 1)))],[],[]⟩))
 (.ret ((.tup [(.one (.z (.bool (.not (.cmp .geq (.var 6000) (.lit 0)))))),(.one (.z (.int .i64 (.lit 0))))]),[],9)))))
 (.ret ((.tup [(.one (.z (.bool (.lit true)))),(.one (.z (.int .i64 (.lit 0))))]),[],9))))
 (.ite (.cmp .eql (.fn 111 (.i (.var 11) (.i (.var 12) (.i (.var 13) (.i (.var 2) (.i (.var 3) (.i (.var 4) .nil))))))) (.lit 0))
 (.ret ((.tup [(.one (.z (.bool (.fn 111 (.i (.var 11) (.i (.var 12) (.i (.var 13) (.i (.var 2) (.i (.var 3) (.i (.var 4) .nil)))))))))),(.one (.z (.int .i64 (.lit 0))))]),[],6))
 (.ret ((.tup [(.one (.z (.bool (.lit false)))),(.one (.z (.int .i64 (.lit 0))))]),[],6)))))))
 (.ite (.cmp .eql (.var 1) (.lit 6))
 (.ite (.cmp .eql (.var 10) (.lit 4))
 (.ret ((.tup [(.one (.z (.bool (.lit true)))),(.one (.z (.int .i64 (.lit 0))))]),[],4))
 (.ite (.cmp .eql (.var 10) (.lit 3))
 (.ite (.cmp .eql (.var 10) (.lit 3))
 (.ite (.cmp .eql (.fn 112 (.x (.var 5) (.x (.var 14) .nil))) (.lit 0))
 (.ret ((.tup [(.one (.z (.bool (.fn 118 (.x (.var 5) (.x (.var 14) .nil)))))),(.one (.z (.int .i64 (.lit 0))))]),[],4))
 (.ret ((.tup [(.one (.z (.bool (.lit false)))),(.one (.z (.int .i64 (.lit 0))))]),[],4)))
 (.ite (.cmp .eql (.fn 114 (.x (.var 5) (.i (.var 11) (.i (.var 12) (.i (.var 13) .nil))))) (.lit 0))
 (.ret ((.tup [(.one (.z (.bool (.cmp .eql (.fn 113 (.x (.var 5) (.i (.var 11) (.i (.var 12) (.i (.var 13) .nil))))) (.lit 1))))),(.one (.z (.int .i64 (.lit 0))))]),[],5))
 (.ret ((.tup [(.one (.z (.bool (.lit false)))),(.one (.z (.int .i64 (.lit 0))))]),[],5))))
 (.ite (.cmp .eql (.var 10) (.lit 6))
 (.ite (.cmp .eql (.fn 112 (.x (.var 5) (.x (.var 14) .nil))) (.lit 0))
 (.ret ((.tup [(.one (.z (.bool (.fn 118 (.x (.var 5) (.x (.var 14) .nil)))))),(.one (.z (.int .i64 (.lit 0))))]),[],4))
 (.ret ((.tup [(.one (.z (.bool (.lit false)))),(.one (.z (.int .i64 (.lit 0))))]),[],4)))
 (.ite (.cmp .eql (.fn 114 (.x (.var 5) (.i (.var 11) (.i (.var 12) (.i (.var 13) .nil))))) (.lit 0))
 (.ret ((.tup [(.one (.z (.bool (.cmp .eql (.fn 113 (.x (.var 5) (.i (.var 11) (.i (.var 12) (.i (.var 13) .nil))))) (.lit 1))))),(.one (.z (.int .i64 (.lit 0))))]),[],5))
 (.ret ((.tup [(.one (.z (.bool (.lit false)))),(.one (.z (.int .i64 (.lit 0))))]),[],5))))))
 (.ite (.cmp .eql (.var 10) (.lit 4))
 (.ret ((.tup [(.one (.z (.bool (.lit true)))),(.one (.z (.int .i64 (.lit 0))))]),[],5))
 (.ite (.cmp .eql (.var 10) (.lit 3))
 (.ite (.cmp .eql (.var 10) (.lit 3))
 (.loop 0 6000 ⟨[(0,(.lit 0))],[],[]⟩
 (.ite (.cmp .lss (.var 6000) (.len (.var 14)))
 (.ob (.tru (.cmp .leq (.lit 0) (.var 6000)))
 (.ob (.tru (.cmp .lss (.var 6000) (.len (.var 14))))
 (.ite (.cmp .eql (.fn 13 (.i (.rd (.var 14) (.var 6000) 0) (.i (.rd (.var 14) (.var 6000) 1) (.i (.var 2) (.i (.var 3) (.i (.var 2) (.i (.var 3) (.i (.var 4) .nil)))))))) (.lit 0))
 (.ite (.not (.fn 7 (.i (.rd (.var 14) (.var 6000) 0) (.i (.rd (.var 14) (.var 6000) 1) (.i (.var 2) (.i (.var 3) (.i (.var 2) (.i (.var 3) (.i (.var 4) .nil)))))))))
 (.ret ((.tup [(.one (.z (.bool (.not (.cmp .geq (.var 6000) (.lit 0)))))),(.one (.z (.int .i64 (.lit 0))))]),[],9))
 (.next 0 ⟨[(0,(.ar .add .i64 (.var 6000) (.lit 1)))],[],[]⟩))
 (.ret ((.tup [(.one (.z (.bool (.not (.cmp .geq (.var 6000) (.lit 0)))))),(.one (.z (.int .i64 (.lit 0))))]),[],9)))))
 (.ret ((.tup [(.one (.z (.bool (.lit true)))),(.one (.z (.int .i64 (.lit 0))))]),[],9))))
 (.ite (.cmp .eql (.fn 111 (.i (.var 11) (.i (.var 12) (.i (.var 13) (.i (.var 2) (.i (.var 3) (.i (.var 4) .nil))))))) (.lit 0))
 (.ret ((.tup [(.one (.z (.bool (.fn 111 (.i (.var 11) (.i (.var 12) (.i (.var 13) (.i (.var 2) (.i (.var 3) (.i (.var 4) .nil)))))))))),(.one (.z (.int .i64 (.lit 0))))]),[],6))
 (.ret ((.tup [(.one (.z (.bool (.lit false)))),(.one (.z (.int .i64 (.lit 0))))]),[],6))))
 (.ite (.cmp .eql (.var 10) (.lit 6))
 (.loop 0 6000 ⟨[(0,(.lit 0))],[],[]⟩
 (.ite (.cmp .lss (.var 6000) (.len (.var 14)))
 (.ob (.tru (.cmp .leq (.lit 0) (.var 6000)))
 (.ob (.tru (.cmp .lss (.var 6000) (.len (.var 14))))
 (.ite (.cmp .eql (.fn 13 (.i (.rd (.var 14) (.var 6000) 0) (.i (.rd (.var 14) (.var 6000) 1) (.i (.var 2) (.i (.var 3) (.i (.var 2) (.i (.var 3) (.i (.var 4) .nil)))))))) (.lit 0))
 (.ite (.not (.fn 7 (.i (.rd (.var 14) (.var 6000) 0) (.i (.rd (.var 14) (.var 6000) 1) (.i (.var 2) (.i (.var 3) (.i (.var 2) (.i (.var 3) (.i (.var 4) .nil)))))))))
 (.ret ((.tup [(.one (.z (.bool (.not (.cmp .geq (.var 6000) (.lit 0)))))),(.one (.z (.int .i64 (.lit 0))))]),[],9))
 (.next 0 ⟨[(0,(.ar .add .i64 (.var 6000) (.lit 1)))],[],[]⟩))
 (.ret ((.tup [(.one (.z (.bool (.not (.cmp .geq (.var 6000) (.lit 0)))))),(.one (.z (.int .i64 (.lit 0))))]),[],9)))))
 (.ret ((.tup [(.one (.z (.bool (.lit true)))),(.one (.z (.int .i64 (.lit 0))))]),[],9))))
 (.ite (.cmp .eql (.fn 111 (.i (.var 11) (.i (.var 12) (.i (.var 13) (.i (.var 2) (.i (.var 3) (.i (.var 4) .nil))))))) (.lit 0))
 (.ret ((.tup [(.one (.z (.bool (.fn 111 (.i (.var 11) (.i (.var 12) (.i (.var 13) (.i (.var 2) (.i (.var 3) (.i (.var 4) .nil)))))))))),(.one (.z (.int .i64 (.lit 0))))]),[],6))
 (.ret ((.tup [(.one (.z (.bool (.lit false)))),(.one (.z (.int .i64 (.lit 0))))]),[],6)))))))))))
set_option maxRecDepth 100000 in
theorem b4J:T.norm 0 (call Tryz.prog c1H (Lt.of []) 100 32 (i6 0 [v5,v5]) [] 0) TT.ret=a6b:=by kernel_rfl
theorem b3w:a6b.low 1000=true:=by kernel_rfl
def a6i:TT j6:=
(.ite (.not (.fn 76 (.i (.var 0) (.i (.var 1) (.i (.var 2) (.i (.var 3) (.i (.var 4) (.x (.var 5) (.i (.var 6) (.i (.var 7) (.x (.var 8) .nil)))))))))))
 (.ret ((.tup [(.one (.z (.bool (.lit false)))),(.one (.z (.int .i64 (.lit 1))))]),[],2))
 (.ite (.not (.fn 76 (.i (.var 9) (.i (.var 10) (.i (.var 11) (.i (.var 12) (.i (.var 13) (.x (.var 14) (.i (.var 15) (.i (.var 16) (.x (.var 17) .nil)))))))))))
 (.ret ((.tup [(.one (.z (.bool (.lit false)))),(.one (.z (.int .i64 (.lit 1))))]),[],2))
 (.ite (.cmp .eql (.var 1) (.lit 4))
 (.ite (.cmp .eql (.var 10) (.lit 4))
 (.ret ((.tup [(.one (.z (.bool (.lit false)))),(.one (.z (.int .i64 (.lit 0))))]),[],5))
 (.ite (.cmp .eql (.var 10) (.lit 3))
 (.ite (.cmp .eql (.var 10) (.lit 3))
 (.ret ((.tup [(.one (.z (.bool (.lit false)))),(.one (.z (.int .i64 (.lit 0))))]),[],5))
 (.ret ((.tup [(.one (.z (.bool (.lit false)))),(.one (.z (.int .i64 (.lit 0))))]),[],5)))
 (.ite (.cmp .eql (.var 10) (.lit 6))
 (.ret ((.tup [(.one (.z (.bool (.lit false)))),(.one (.z (.int .i64 (.lit 0))))]),[],5))
 (.ret ((.tup [(.one (.z (.bool (.lit false)))),(.one (.z (.int .i64 (.lit 0))))]),[],5)))))
 (.ite (.cmp .eql (.var 1) (.lit 3))
 (.ite (.cmp .eql (.var 1) (.lit 3))
 (.ite (.cmp .eql (.var 10) (.lit 4))
 (.ret ((.tup [(.one (.z (.bool (.lit false)))),(.one (.z (.int .i64 (.lit 0))))]),[],4))
 (.ite (.cmp .eql (.var 10) (.lit 3))
 (.ite (.cmp .eql (.var 10) (.lit 3))
 (.ite (.cmp .eql (.fn 112 (.x (.var 5) (.x (.var 14) .nil))) (.lit 0))
 (.ret ((.tup [(.one (.z (.bool (.fn 112 (.x (.var 5) (.x (.var 14) .nil)))))),(.one (.z (.int .i64 (.lit 0))))]),[],4))
 (.ret ((.tup [(.one (.z (.bool (.lit false)))),(.one (.z (.int .i64 (.lit 0))))]),[],4)))
 (.ite (.cmp .eql (.fn 114 (.x (.var 5) (.i (.var 11) (.i (.var 12) (.i (.var 13) .nil))))) (.lit 0))
 (.ret ((.tup [(.one (.z (.bool (.cmp .geq (.fn 113 (.x (.var 5) (.i (.var 11) (.i (.var 12) (.i (.var 13) .nil))))) (.lit 0))))),(.one (.z (.int .i64 (.lit 0))))]),[],5))
 (.ret ((.tup [(.one (.z (.bool (.lit false)))),(.one (.z (.int .i64 (.lit 0))))]),[],5))))
 (.ite (.cmp .eql (.var 10) (.lit 6))
 (.ite (.cmp .eql (.fn 112 (.x (.var 5) (.x (.var 14) .nil))) (.lit 0))
 (.ret ((.tup [(.one (.z (.bool (.fn 112 (.x (.var 5) (.x (.var 14) .nil)))))),(.one (.z (.int .i64 (.lit 0))))]),[],4))
 (.ret ((.tup [(.one (.z (.bool (.lit false)))),(.one (.z (.int .i64 (.lit 0))))]),[],4)))
 (.ite (.cmp .eql (.fn 114 (.x (.var 5) (.i (.var 11) (.i (.var 12) (.i (.var 13) .nil))))) (.lit 0))
 (.ret ((.tup [(.one (.z (.bool (.cmp .geq (.fn 113 (.x (.var 5) (.i (.var 11) (.i (.var 12) (.i (.var 13) .nil))))) (.lit 0))))),(.one (.z (.int .i64 (.lit 0))))]),[],5))
 (.ret ((.tup [(.one (.z (.bool (.lit false)))),(.one (.z (.int .i64 (.lit 0))))]),[],5))))))
 (.ite (.cmp .eql (.var 10) (.lit 4))
 (.ret ((.tup [(.one (.z (.bool (.lit false)))),(.one (.z (.int .i64 (.lit 0))))]),[],5))
 (.ite (.cmp .eql (.var 10) (.lit 3))
 (.ite (.cmp .eql (.var 10) (.lit 3))
 (.ite (.cmp .eql (.fn 114 (.x (.var 14) (.i (.var 2) (.i (.var 3) (.i (.var 4) .nil))))) (.lit 0))
 (.ret ((.tup [(.one (.z (.bool (.cmp .geq (.fn 113 (.x (.var 14) (.i (.var 2) (.i (.var 3) (.i (.var 4) .nil))))) (.lit 0))))),(.one (.z (.int .i64 (.lit 0))))]),[],6))
 (.ret ((.tup [(.one (.z (.bool (.lit false)))),(.one (.z (.int .i64 (.lit 0))))]),[],6)))
 (.ite (.cmp .eql (.fn 13 (.i (.var 11) (.i (.var 12) (.i (.var 2) (.i (.var 3) (.i (.var 2) (.i (.var 3) (.i (.ar .add .i64 (.var 13) (.var 4)) .nil)))))))) (.lit 0))
 (.ret ((.tup [(.one (.z (.bool (.fn 7 (.i (.var 11) (.i (.var 12) (.i (.var 2) (.i (.var 3) (.i (.var 2) (.i (.var 3) (.i (.ar .add .i64 (.var 13) (.var 4)) .nil))))))))))),(.one (.z (.int .i64 (.lit 0))))]),[],6))
 (.ret ((.tup [(.one (.z (.bool (.lit false)))),(.one (.z (.int .i64 (.lit 0))))]),[],6))))
 (.ite (.cmp .eql (.var 10) (.lit 6))
 (.ite (.cmp .eql (.fn 114 (.x (.var 14) (.i (.var 2) (.i (.var 3) (.i (.var 4) .nil))))) (.lit 0))
 (.ret ((.tup [(.one (.z (.bool (.cmp .geq (.fn 113 (.x (.var 14) (.i (.var 2) (.i (.var 3) (.i (.var 4) .nil))))) (.lit 0))))),(.one (.z (.int .i64 (.lit 0))))]),[],6))
 (.ret ((.tup [(.one (.z (.bool (.lit false)))),(.one (.z (.int .i64 (.lit 0))))]),[],6)))
 (.ite (.cmp .eql (.fn 13 (.i (.var 11) (.i (.var 12) (.i (.var 2) (.i (.var 3) (.i (.var 2) (.i (.var 3) (.i (.ar .add .i64 (.var 13) (.var 4)) .nil)))))))) (.lit 0))
 (.ret ((.tup [(.one (.z (.bool (.fn 7 (.i (.var 11) (.i (.var 12) (.i (.var 2) (.i (.var 3) (.i (.var 2) (.i (.var 3) (.i (.ar .add .i64 (.var 13) (.var 4)) .nil))))))))))),(.one (.z (.int .i64 (.lit 0))))]),[],6))
 (.ret ((.tup [(.one (.z (.bool (.lit false)))),(.one (.z (.int .i64 (.lit 0))))]),[],6)))))))
 (.ite (.cmp .eql (.var 1) (.lit 6))
 (.ite (.cmp .eql (.var 10) (.lit 4))
 (.ret ((.tup [(.one (.z (.bool (.lit false)))),(.one (.z (.int .i64 (.lit 0))))]),[],4))
 (.ite (.cmp .eql (.var 10) (.lit 3))
 (.ite (.cmp .eql (.var 10) (.lit 3))
 (.ite (.cmp .eql (.fn 112 (.x (.var 5) (.x (.var 14) .nil))) (.lit 0))
 (.ret ((.tup [(.one (.z (.bool (.fn 112 (.x (.var 5) (.x (.var 14) .nil)))))),(.one (.z (.int .i64 (.lit 0))))]),[],4))
 (.ret ((.tup [(.one (.z (.bool (.lit false)))),(.one (.z (.int .i64 (.lit 0))))]),[],4)))
 (.ite (.cmp .eql (.fn 114 (.x (.var 5) (.i (.var 11) (.i (.var 12) (.i (.var 13) .nil))))) (.lit 0))
 (.ret ((.tup [(.one (.z (.bool (.cmp .geq (.fn 113 (.x (.var 5) (.i (.var 11) (.i (.var 12) (.i (.var 13) .nil))))) (.lit 0))))),(.one (.z (.int .i64 (.lit 0))))]),[],5))
 (.ret ((.tup [(.one (.z (.bool (.lit false)))),(.one (.z (.int .i64 (.lit 0))))]),[],5))))
 (.ite (.cmp .eql (.var 10) (.lit 6))
 (.ite (.cmp .eql (.fn 112 (.x (.var 5) (.x (.var 14) .nil))) (.lit 0))
 (.ret ((.tup [(.one (.z (.bool (.fn 112 (.x (.var 5) (.x (.var 14) .nil)))))),(.one (.z (.int .i64 (.lit 0))))]),[],4))
 (.ret ((.tup [(.one (.z (.bool (.lit false)))),(.one (.z (.int .i64 (.lit 0))))]),[],4)))
 (.ite (.cmp .eql (.fn 114 (.x (.var 5) (.i (.var 11) (.i (.var 12) (.i (.var 13) .nil))))) (.lit 0))
 (.ret ((.tup [(.one (.z (.bool (.cmp .geq (.fn 113 (.x (.var 5) (.i (.var 11) (.i (.var 12) (.i (.var 13) .nil))))) (.lit 0))))),(.one (.z (.int .i64 (.lit 0))))]),[],5))
 (.ret ((.tup [(.one (.z (.bool (.lit false)))),(.one (.z (.int .i64 (.lit 0))))]),[],5))))))
 (.ite (.cmp .eql (.var 10) (.lit 4))
 (.ret ((.tup [(.one (.z (.bool (.lit false)))),(.one (.z (.int .i64 (.lit 0))))]),[],5))
 (.ite (.cmp .eql (.var 10) (.lit 3))
 (.ite (.cmp .eql (.var 10) (.lit 3))
 (.ite (.cmp .eql (.fn 114 (.x (.var 14) (.i (.var 2) (.i (.var 3) (.i (.var 4) .nil))))) (.lit 0))
 (.ret ((.tup [(.one (.z (.bool (.cmp .geq (.fn 113 (.x (.var 14) (.i (.var 2) (.i (.var 3) (.i (.var 4) .nil))))) (.lit 0))))),(.one (.z (.int .i64 (.lit 0))))]),[],6))
 (.ret ((.tup [(.one (.z (.bool (.lit false)))),(.one (.z (.int .i64 (.lit 0))))]),[],6)))
 (.ite (.cmp .eql (.fn 13 (.i (.var 11) (.i (.var 12) (.i (.var 2) (.i (.var 3) (.i (.var 2) (.i (.var 3) (.i (.ar .add .i64 (.var 13) (.var 4)) .nil)))))))) (.lit 0))
 (.ret ((.tup [(.one (.z (.bool (.fn 7 (.i (.var 11) (.i (.var 12) (.i (.var 2) (.i (.var 3) (.i (.var 2) (.i (.var 3) (.i (.ar .add .i64 (.var 13) (.var 4)) .nil))))))))))),(.one (.z (.int .i64 (.lit 0))))]),[],6))
 (.ret ((.tup [(.one (.z (.bool (.lit false)))),(.one (.z (.int .i64 (.lit 0))))]),[],6))))
 (.ite (.cmp .eql (.var 10) (.lit 6))
 (.ite (.cmp .eql (.fn 114 (.x (.var 14) (.i (.var 2) (.i (.var 3) (.i (.var 4) .nil))))) (.lit 0))
 (.ret ((.tup [(.one (.z (.bool (.cmp .geq (.fn 113 (.x (.var 14) (.i (.var 2) (.i (.var 3) (.i (.var 4) .nil))))) (.lit 0))))),(.one (.z (.int .i64 (.lit 0))))]),[],6))
 (.ret ((.tup [(.one (.z (.bool (.lit false)))),(.one (.z (.int .i64 (.lit 0))))]),[],6)))
 (.ite (.cmp .eql (.fn 13 (.i (.var 11) (.i (.var 12) (.i (.var 2) (.i (.var 3) (.i (.var 2) (.i (.var 3) (.i (.ar .add .i64 (.var 13) (.var 4)) .nil)))))))) (.lit 0))
 (.ret ((.tup [(.one (.z (.bool (.fn 7 (.i (.var 11) (.i (.var 12) (.i (.var 2) (.i (.var 3) (.i (.var 2) (.i (.var 3) (.i (.ar .add .i64 (.var 13) (.var 4)) .nil))))))))))),(.one (.z (.int .i64 (.lit 0))))]),[],6))
 (.ret ((.tup [(.one (.z (.bool (.lit false)))),(.one (.z (.int .i64 (.lit 0))))]),[],6)))))))))))
set_option maxRecDepth 100000 in
theorem b5a:T.norm 0 (call Tryz.prog c1H (Lt.of []) 100 37 (i6 0 [v5,v5]) [] 0) TT.ret=a6i:=by kernel_rfl
theorem b3x:a6i.low 1000=true:=by kernel_rfl
def a8s(a:Rows)(x y r:Int):Nat→Nat→Bool
 | 0,_=>true
 | f+1,i=>B8 (lg a i 0) (lg a i 1) x y x y r&&a8s a x y r f (i+1)
def M5(k1 x1 y1 r1:Int)(a1:Rows)(k2 x2 y2 r2:Int)(a2:Rows):Bool:=
 if k1=4 then decide (k2=4)
 else if k1=3∨k1=6 then(if k2=4 then true else if k2=3∨k2=6 then hoX a1 a2 else decide (W6 a1 x2 y2 r2=1))
 else(if k2=4 then true else if k2=3∨k2=6 then a8s a2 x1 y1 r1 a2.length 0 else a0U x2 y2 r2 x1 y1 r1)
def Q2(k1 x1 y1 r1:Int)(a1:Rows)(k2 x2 y2 r2:Int)(a2:Rows):Bool:=
 if k1=4∨k2=4 then false
 else if k1=3∨k1=6 then(if k2=3∨k2=6 then a6D a1 a2 else decide (0≤W6 a1 x2 y2 r2))
 else(if k2=3∨k2=6 then decide (0≤W6 a2 x1 y1 r1) else B8 x2 y2 x1 y1 x1 y1 (r2+r1))
def W5(ds:List D):Bool:=z6 (c9 ds 0) (c9 ds 1) (c9 ds 2) (c9 ds 3) (c9 ds 4) (d9 ds 5) (c9 ds 6) (c9 ds 7) (d9 ds 8)&&z6 (c9 ds 9) (c9 ds 10) (c9 ds 11) (c9 ds 12) (c9 ds 13) (d9 ds 14) (c9 ds 15) (c9 ds 16) (d9 ds 17)
def feE(ds:List D):Int:=if W5 ds then 0 else 1
def a0y(ds:List D):Bool:=W5 ds&&M5 (c9 ds 1) (c9 ds 2) (c9 ds 3) (c9 ds 4) (d9 ds 5) (c9 ds 10) (c9 ds 11) (c9 ds 12) (c9 ds 13) (d9 ds 14)
def R3(ds:List D):Bool:=W5 ds&&Q2 (c9 ds 1) (c9 ds 2) (c9 ds 3) (c9 ds 4) (d9 ds 5) (c9 ds 10) (c9 ds 11) (c9 ds 12) (c9 ds 13) (d9 ds 14)
theorem c4D(W:World)(ds l:List D):(f0 C0 W ds).fb 76 l=G2 l:=by simp only[f0,C0,G1,C6,z9,w9,KI,KH,KG,KF]
theorem d3q(W:World)(ds l:List D):(f0 C0 W ds).fb 118 l=hoR l:=by simp only[f0,C0]
theorem d2V(W:World)(ds l:List D):(f0 C0 W ds).fb 112 l=a1D l:=by simp only[f0,C0,G1,C6,z9]
theorem b9h(W:World)(ds l:List D):(f0 C0 W ds).fi 112 l=O4 l:=by simp only[f0,C0,G1,C6,z9]
theorem b9Y(W:World)(ds l:List D):(f0 C0 W ds).fi 113 l=a0t l:=by simp only[f0,C0,G1,C6,z9]
theorem b9n(W:World)(ds l:List D):(f0 C0 W ds).fi 114 l=a0o l:=by simp only[f0,C0,G1,C6,z9]
theorem c2D(W:World)(ds l:List D):(f0 C0 W ds).fb 7 l=L6 l:=by simp only[f0,C0,G1,C6,z9,w9,KI,KH,KG,KF,KE,KD,KC,KB,KA,K9,K8,K7,K6,K5,K]
theorem b7r(W:World)(ds l:List D):(f0 C0 W ds).fi 13 l=R4 l:=by simp only[f0,C0,G1,C6,z9,w9,KI,KH,KG,KF,KE,KD,KC,KB,KA,K9,K8,K7,K6,K5,K]
theorem d1B(W:World)(ds l:List D):(f0 C0 W ds).fb 111 l=a1z l:=by simp only[f0,C0,G1,C6,z9,w9]
theorem d1Z(W:World)(ds l:List D):(f0 C0 W ds).fi 111 l=a1A l:=by simp only[f0,C0,G1,C6,z9,w9]
section
variable {id1 k1 x1 y1 r1 d1 s1 id2 k2 x2 y2 r2 d2 s2:Int} {a1 t1 a2 t2:Rows}
theorem a1n(h:z6 id1 k1 x1 y1 r1 a1 d1 s1 t1=true)(hk:k1=3∨k1=6):n7 a1=true:=by
 have:=(a1w.mp h).2.2.2.2
 rcases this with q | q | q
 ·omega
 ·exact q.2.1
 ·omega
theorem H7(h:z6 id1 k1 x1 y1 r1 a1 d1 s1 t1=true)(h3:k1≠3)(h6:k1≠6):g9 x1 y1=true∧0≤r1∧r1≤100000:=by
 obtain⟨_,_,_,hr,this⟩:=a1w.mp h
 rcases this with q | q | q
 ·exact⟨q.2.1,hr⟩
 ·omega
 ·exact⟨q.2.1,hr⟩
theorem b5s(h1:n7 a1=true)(h2:n7 a2=true):hoR [.l a1,.l a2]=hoX a1 a2∧a1D [.l a1,.l a2]=a6D a1 a2∧O4 [.l a1,.l a2]=0:=by
 have:a1y [.l a1,.l a2]=true:=by show(n7 a1&&n7 a2)=true;rw[h1,h2];rfl
 unfold hoR a1D O4
 rw[this]
 exact⟨rfl,rfl,rfl⟩
theorem b0F(h1:n7 a1=true)(h2:g9 x2 y2=true)(hr:0≤r2∧r2≤3000000):a0t [.l a1,.i x2,.i y2,.i r2]=W6 a1 x2 y2 r2∧a0o [.l a1,.i x2,.i y2,.i r2]=0:=by
 have:a3l [.l a1,.i x2,.i y2,.i r2]=true:=by
  show(n7 a1&&g9 x2 y2&&A8 r2)=true
  rw[h1,h2,A8,decide_eq_true hr];rfl
 unfold a0t a0o
 rw[this]
 exact⟨rfl,rfl⟩
theorem d1n(h1:g9 x1 y1=true)(h2:g9 x2 y2=true)(hr:0≤r1∧r1≤3000000)(hr':0≤r2∧r2≤3000000):a1z [.i x2,.i y2,.i r2,.i x1,.i y1,.i r1]=a0U x2 y2 r2 x1 y1 r1∧a1A [.i x2,.i y2,.i r2,.i x1,.i y1,.i r1]=0:=by
 have:a3x [.i x2,.i y2,.i r2,.i x1,.i y1,.i r1]=true:=by
  show(g9 x2 y2&&g9 x1 y1&&A8 r2&&A8 r1)=true
  rw[h1,h2,A8,A8,decide_eq_true hr,decide_eq_true hr'];rfl
 unfold a1z a1A
 rw[this]
 exact⟨rfl,rfl⟩
theorem a8H(h1:g9 x1 y1=true)(h2:g9 x2 y2=true){r:Int}(hr:0≤r∧r≤3000000):L6 [.i x2,.i y2,.i x1,.i y1,.i x1,.i y1,.i r]=B8 x2 y2 x1 y1 x1 y1 r∧R4 [.i x2,.i y2,.i x1,.i y1,.i x1,.i y1,.i r]=0:=
 ⟨(b4i h2 h1 h1 hr).1,(b4i h2 h1 h1 hr).2⟩
end
end Go.Proofs.YtldbejmgalhdaaaGreat
namespace Go.Proofs.YtldbejmgalhdaaaGreat
open Go.RowKit
set_option maxHeartbeats 4000000 in
theorem c7y:k8 Tryz.prog 32 [v5,v5] (fun ds=> .tuple #[.bool (a0y ds),.int .i64 (feE ds)]):=by
 refine GivesIf.all (i7 C0 (by kernel_rfl) (fun ρ h=>b2l (Sees.of h 119)) (by kernel_rfl) b4J b3w (by decide) (fun W vals ds hr _=> ?_))
 simp only[a6b,g8,Nat.reduceBEq,Nat.reduceLT,Nat.reduceSub,c4D,d3q,b9h,b9Y,b9n,b7r,c2D,d1B,d1Z,O9]
 have F:W5 ds=false→Value.tuple #[.bool false,.int .i64 1]=Value.tuple #[.bool (a0y ds),.int .i64 (feE ds)]:=fun h=>by simp [a0y,feE,h]
 have T:∀b,W5 ds=true→M5 (c9 ds 1) (c9 ds 2) (c9 ds 3) (c9 ds 4) (d9 ds 5) (c9 ds 10) (c9 ds 11) (c9 ds 12) (c9 ds 13) (d9 ds 14)=b→Value.tuple #[.bool b,.int .i64 0]=Value.tuple #[.bool (a0y ds),.int .i64 (feE ds)]:=fun b h h'=>by simp [a0y,feE,h,h']
 refine⟨fun h=>F (by simp only[W5,h,Bool.false_and]),fun f1=>⟨fun h=>F (by simp only[W5,h,Bool.and_false]),fun f2=> ?_⟩⟩
 have hO:W5 ds=true:=by simp only[W5,f1,f2,Bool.and_self]
 replace T:=fun b=>T b hO
 clear F hr hO
 generalize c9 ds 1=k1 at*
 generalize ex1:c9 ds 2=x1 at*
 generalize ey1:c9 ds 3=y1 at*
 generalize er1:c9 ds 4=r1 at*
 generalize d9 ds 5=a1 at*
 generalize c9 ds 10=k2 at*
 generalize c9 ds 11=x2 at*
 generalize c9 ds 12=y2 at*
 generalize c9 ds 13=r2 at*
 generalize ea2:d9 ds 14=a2 at*
 have A1:=a1n f1
 have A2:=a1n f2
 have D1:=H7 f1
 have D2:=H7 f2
 have H44:k1=4→M5 k1 x1 y1 r1 a1 k2 x2 y2 r2 a2=decide (k2=4):=fun h=>by unfold M5;rw[if_pos h]
 have Hn4:k1≠4→k2=4→M5 k1 x1 y1 r1 a1 k2 x2 y2 r2 a2=true:=fun h h'=>by unfold M5;simp only[if_neg h,if_pos h',ite_self]
 have HAA:(k1=3∨k1=6)→(k2=3∨k2=6)→M5 k1 x1 y1 r1 a1 k2 x2 y2 r2 a2=hoX a1 a2:=fun h h'=>by unfold M5;rw[if_neg (by omega),if_pos h,if_neg (by omega),if_pos h']
 have HAD:(k1=3∨k1=6)→k2≠3→k2≠6→k2≠4→M5 k1 x1 y1 r1 a1 k2 x2 y2 r2 a2=decide (W6 a1 x2 y2 r2=1):=fun h h1 h2 h3=>by unfold M5;rw[if_neg (by omega),if_pos h,if_neg h3,if_neg (by omega)]
 have HDA:k1≠3→k1≠6→k1≠4→(k2=3∨k2=6)→M5 k1 x1 y1 r1 a1 k2 x2 y2 r2 a2=a8s a2 x1 y1 r1 a2.length 0:=fun h1 h2 h3 h=>by unfold M5;rw[if_neg h3,if_neg (by omega),if_neg (by omega),if_pos h]
 have HDD:k1≠3→k1≠6→k1≠4→k2≠3→k2≠6→k2≠4→M5 k1 x1 y1 r1 a1 k2 x2 y2 r2 a2=a0U x2 y2 r2 x1 y1 r1:=fun h1 h2 h3 h4 h5 h6=>by unfold M5;rw[if_neg h3,if_neg (by omega),if_neg h6,if_neg (by omega)]
 have EAA:(k1=3∨k1=6)→(k2=3∨k2=6)→hoR [.l a1,.l a2]=hoX a1 a2∧O4 [.l a1,.l a2]=0:=fun h h'=>⟨(b5s (A1 h) (A2 h')).1,(b5s (A1 h) (A2 h')).2.2⟩
 have EAD:(k1=3∨k1=6)→k2≠3→k2≠6→a0t [.l a1,.i x2,.i y2,.i r2]=W6 a1 x2 y2 r2∧a0o [.l a1,.i x2,.i y2,.i r2]=0:=fun h h1 h2=>b0F (A1 h) (D2 h1 h2).1 (by have:=(D2 h1 h2).2;omega)
 have EDD:k1≠3→k1≠6→k2≠3→k2≠6→a1z [.i x2,.i y2,.i r2,.i x1,.i y1,.i r1]=a0U x2 y2 r2 x1 y1 r1∧a1A [.i x2,.i y2,.i r2,.i x1,.i y1,.i r1]=0:=fun h1 h2 h3 h4=>d1n (D1 h1 h2).1 (D2 h3 h4).1 (by have:=(D1 h1 h2).2;omega) (by have:=(D2 h3 h4).2;omega)
 have EDA:k1≠3→k1≠6→(k2=3∨k2=6)→∀i,i<a2.length→L6 [.i (lg a2 i 0),.i (lg a2 i 1),.i x1,.i y1,.i x1,.i y1,.i r1]=B8 (lg a2 i 0) (lg a2 i 1) x1 y1 x1 y1 r1∧R4 [.i (lg a2 i 0),.i (lg a2 i 1),.i x1,.i y1,.i x1,.i y1,.i r1]=0:=
  fun h1 h2 h i hi=>a8H (D1 h1 h2).1 (P5 (A2 h) hi) (by have:=(D1 h1 h2).2;omega)
 have LA:(k2=3∨k2=6)→3≤a2.length∧a2.length≤24:=fun h=>O7 (A2 h)
 clear A1 A2 D1 D2 f1 f2
 repeat' (first | (intro h;skip) | (refine And.intro ?_ ?_))
 all_goals first
  | omega
  | (refine T _ ?_;rw[H44 (by omega),decide_eq_true (by omega)])
  | (refine T _ ?_;rw[H44 (by omega),decide_eq_false (by omega)])
  | (refine T _ ?_;exact Hn4 (by omega) (by omega))
  | (rw[(EAA (by omega) (by omega)).1];exact T _ (HAA (by omega) (by omega)))
  | (exact absurd (EAA (by omega) (by omega)).2 (by assumption))
  | (rw[(EAD (by omega) (by omega) (by omega)).1];exact T _ (HAD (by omega) (by omega) (by omega) (by omega)))
  | (exact absurd (EAD (by omega) (by omega) (by omega)).2 (by assumption))
  | (rw[(EDD (by omega) (by omega) (by omega) (by omega)).1];exact T _ (HDD (by omega) (by omega) (by omega) (by omega) (by omega) (by omega)))
  | (exact absurd (EDD (by omega) (by omega) (by omega) (by omega)).2 (by assumption))
  | (refine TT.sat_loop (fun v=>∃i:Nat,v.i 0=i∧i≤a2.length∧a8s a2 x1 y1 r1 (a2.length-i) i=a8s a2 x1 y1 r1 a2.length 0) (fun v=>a2.length-(v.i 0).toNat) ⟨0,by simp [j7,i8,E.ev],by omega,rfl⟩ (fun v hv=> ?_)
     obtain⟨i,i0,i1,i2⟩:=hv
     simp only[g8,Nat.reduceBEq,Nat.reduceLT,Nat.reduceSub,i0,ex1,ey1,er1,ea2,b7r,c2D]
     have hl:=LA (by omega)
     refine⟨fun hc=> ?_,fun hc=> ?_⟩
     ·have hi:i<a2.length:=by omega
      obtain⟨f,hf⟩:∃f,a2.length-i=f+1:=⟨a2.length-i-1,by omega⟩
      have hf':a2.length-(i+1)=f:=by omega
      rw[hf,a8s] at i2
      obtain⟨g1,g2⟩:=EDA (by omega) (by omega) (by omega) i hi
      rw[g1,g2,f8 ((i:Int)+1) (by omega) (by omega)]
      refine⟨by omega,by omega,fun _=>⟨fun b=> ?_,fun b=>⟨⟨i+1,rfl,by omega,by rw[hf',←i2,b];rfl⟩,by omega⟩⟩,fun c=>absurd rfl c⟩
      have hz:(!u7 BinOp.geq (i:Int) 0)=false:=by
       have h:u7 BinOp.geq (i:Int) 0=true:=by
        rw[x7]
        simp only[p6]
        omega
       rw[h];rfl
      rw[hz]
      exact T _ (by rw[HDA (by omega) (by omega) (by omega) (by omega),←i2,b];rfl)
     ·have h0:a2.length-i=0:=by omega
      rw[h0,a8s] at i2
      exact T _ (by rw[HDA (by omega) (by omega) (by omega) (by omega),←i2]))
set_option maxHeartbeats 4000000 in
theorem c7C:k8 Tryz.prog 37 [v5,v5] (fun ds=> .tuple #[.bool (R3 ds),.int .i64 (feE ds)]):=by
 refine GivesIf.all (i7 C0 (by kernel_rfl) (fun ρ h=>b2l (Sees.of h 119)) (by kernel_rfl) b5a b3x (by decide) (fun W vals ds hr _=> ?_))
 simp only[a6i,g8,Nat.reduceBEq,Nat.reduceLT,Nat.reduceSub,c4D,d2V,b9h,b9Y,b9n,b7r,c2D,O9]
 have F:W5 ds=false→Value.tuple #[.bool false,.int .i64 1]=Value.tuple #[.bool (R3 ds),.int .i64 (feE ds)]:=fun h=>by simp [R3,feE,h]
 have T:∀b,W5 ds=true→Q2 (c9 ds 1) (c9 ds 2) (c9 ds 3) (c9 ds 4) (d9 ds 5) (c9 ds 10) (c9 ds 11) (c9 ds 12) (c9 ds 13) (d9 ds 14)=b→Value.tuple #[.bool b,.int .i64 0]=Value.tuple #[.bool (R3 ds),.int .i64 (feE ds)]:=fun b h h'=>by simp [R3,feE,h,h']
 refine⟨fun h=>F (by simp only[W5,h,Bool.false_and]),fun f1=>⟨fun h=>F (by simp only[W5,h,Bool.and_false]),fun f2=> ?_⟩⟩
 have hO:W5 ds=true:=by simp only[W5,f1,f2,Bool.and_self]
 replace T:=fun b=>T b hO
 clear F hr hO
 generalize c9 ds 1=k1 at*
 generalize c9 ds 2=x1 at*
 generalize c9 ds 3=y1 at*
 generalize c9 ds 4=r1 at*
 generalize d9 ds 5=a1 at*
 generalize c9 ds 10=k2 at*
 generalize c9 ds 11=x2 at*
 generalize c9 ds 12=y2 at*
 generalize c9 ds 13=r2 at*
 generalize d9 ds 14=a2 at*
 have A1:=a1n f1
 have A2:=a1n f2
 have D1:=H7 f1
 have D2:=H7 f2
 have H4:(k1=4∨k2=4)→Q2 k1 x1 y1 r1 a1 k2 x2 y2 r2 a2=false:=fun h=>by unfold Q2;rw[if_pos h]
 have HAA:(k1=3∨k1=6)→(k2=3∨k2=6)→Q2 k1 x1 y1 r1 a1 k2 x2 y2 r2 a2=a6D a1 a2:=fun h h'=>by unfold Q2;rw[if_neg (by omega),if_pos h,if_pos h']
 have HAD:(k1=3∨k1=6)→k2≠3→k2≠6→k2≠4→Q2 k1 x1 y1 r1 a1 k2 x2 y2 r2 a2=u7 BinOp.geq (W6 a1 x2 y2 r2) 0:=fun h h1 h2 h3=>by
  unfold Q2;rw[if_neg (by omega),if_pos h,if_neg (by omega),Bool.eq_iff_iff,x7];simp only[p6,decide_eq_true_eq,ge_iff_le]
 have HDA:k1≠3→k1≠6→k1≠4→(k2=3∨k2=6)→Q2 k1 x1 y1 r1 a1 k2 x2 y2 r2 a2=u7 BinOp.geq (W6 a2 x1 y1 r1) 0:=fun h1 h2 h3 h=>by
  unfold Q2;rw[if_neg (by omega),if_neg (by omega),if_pos h,Bool.eq_iff_iff,x7];simp only[p6,decide_eq_true_eq,ge_iff_le]
 have HDD:k1≠3→k1≠6→k1≠4→k2≠3→k2≠6→k2≠4→Q2 k1 x1 y1 r1 a1 k2 x2 y2 r2 a2=B8 x2 y2 x1 y1 x1 y1 (r2+r1):=fun h1 h2 h3 h4 h5 h6=>by unfold Q2;rw[if_neg (by omega),if_neg (by omega),if_neg (by omega)]
 have EAA:(k1=3∨k1=6)→(k2=3∨k2=6)→a1D [.l a1,.l a2]=a6D a1 a2∧O4 [.l a1,.l a2]=0:=fun h h'=>(b5s (A1 h) (A2 h')).2
 have EAD:(k1=3∨k1=6)→k2≠3→k2≠6→a0t [.l a1,.i x2,.i y2,.i r2]=W6 a1 x2 y2 r2∧a0o [.l a1,.i x2,.i y2,.i r2]=0:=fun h h1 h2=>b0F (A1 h) (D2 h1 h2).1 (by have:=(D2 h1 h2).2;omega)
 have EDA:k1≠3→k1≠6→(k2=3∨k2=6)→a0t [.l a2,.i x1,.i y1,.i r1]=W6 a2 x1 y1 r1∧a0o [.l a2,.i x1,.i y1,.i r1]=0:=fun h1 h2 h=>b0F (A2 h) (D1 h1 h2).1 (by have:=(D1 h1 h2).2;omega)
 have EDD:k1≠3→k1≠6→k2≠3→k2≠6→L6 [.i x2,.i y2,.i x1,.i y1,.i x1,.i y1,.i (IntKind.i64.wrap (r2+r1))]=B8 x2 y2 x1 y1 x1 y1 (r2+r1)∧R4 [.i x2,.i y2,.i x1,.i y1,.i x1,.i y1,.i (IntKind.i64.wrap (r2+r1))]=0:=fun h1 h2 h3 h4=>by
  have q1:=(D1 h1 h2).2
  have q2:=(D2 h3 h4).2
  rw[f8 (r2+r1) (by omega) (by omega)]
  exact a8H (D1 h1 h2).1 (D2 h3 h4).1 (by omega)
 clear A1 A2 D1 D2 f1 f2
 repeat' (first | (intro h;skip) | (refine And.intro ?_ ?_))
 all_goals first
  | omega
  | exact T _ (H4 (by omega))
  | (rw[(EAA (by omega) (by omega)).1];exact T _ (HAA (by omega) (by omega)))
  | (exact absurd (EAA (by omega) (by omega)).2 (by assumption))
  | (rw[(EAD (by omega) (by omega) (by omega)).1];exact T _ (HAD (by omega) (by omega) (by omega) (by omega)))
  | (exact absurd (EAD (by omega) (by omega) (by omega)).2 (by assumption))
  | (rw[(EDA (by omega) (by omega) (by omega)).1];exact T _ (HDA (by omega) (by omega) (by omega) (by omega)))
  | (exact absurd (EDA (by omega) (by omega) (by omega)).2 (by assumption))
  | (rw[(EDD (by omega) (by omega) (by omega) (by omega)).1];exact T _ (HDD (by omega) (by omega) (by omega) (by omega) (by omega) (by omega)))
  | (exact absurd (EDD (by omega) (by omega) (by omega) (by omega)).2 (by assumption))
def M4:Interp where
 fi n l:=match n with | 119=>feE l | n=>C0.fi n l
 fb n l:=match n with | 119=>a0y l | 120=>R3 l | n=>C0.fb n l
 fd _ _:=[]
theorem b9T{ρ:Env}(h:Sees ρ M4 122):Sees ρ C0 119:=h.trans (by decide) fun n l hn=>by
 refine⟨?_,?_⟩
 ·
  simp only[M4]
  split<;>first | omega | rfl
 ·
  simp only[M4]
  split<;>first | omega | rfl
def b5V:=o7 [v5,v5] fun al=> .ret (.tup [.one (G8 119 a0y al),.one (w6 119 feE al)])
theorem b7P{ρ:Env}(h:Sees ρ M4 122):i9 Tryz.prog ρ 32 b5V:=
 k5 c7y (fun _=>rfl) (fun al=>by simp only[V.val,V2.val,S.val,S0.val,w6,G8,List.map_cons,List.map_nil,k7 (s:=119) (f:=a0y) (fun l=>by rw[(h 119 l (by decide)).2];simp only[M4]),o6 (s:=119) (f:=feE) (fun l=>by rw[(h 119 l (by decide)).1];simp only[M4])];try rfl)
def b5i:=o7 [v5,v5] fun al=> .ret (.tup [.one (G8 120 R3 al),.one (w6 119 feE al)])
theorem b8J{ρ:Env}(h:Sees ρ M4 122):i9 Tryz.prog ρ 37 b5i:=
 k5 c7C (fun _=>rfl) (fun al=>by simp only[V.val,V2.val,S.val,S0.val,w6,G8,List.map_cons,List.map_nil,k7 (s:=120) (f:=R3) (fun l=>by rw[(h 120 l (by decide)).2];simp only[M4]),o6 (s:=119) (f:=feE) (fun l=>by rw[(h 119 l (by decide)).1];simp only[M4])];try rfl)
def d5Q:Ct:=(32,b5V)::(37,b5i)::c1H
theorem d1y{ρ:Env}(h:Sees ρ M4 122):CtOk Tryz.prog ρ d5Q:= .cons (b7P h)<| .cons (b8J h) (b2l (b9T h))
end Go.Proofs.YtldbejmgalhdaaaGreat
