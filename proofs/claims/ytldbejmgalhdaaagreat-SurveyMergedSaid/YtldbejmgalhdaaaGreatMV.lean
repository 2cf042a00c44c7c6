/- MV, merged: TEf, Ef, Eg. -/
import Derived.Test.YtldbejmgalhdaaaGreatMU
set_option linter.unusedSimpArgs false
set_option linter.unusedVariables false
/- Chapter 07: trees of feature.Holds, feature.Touch. -/
namespace Go.Proofs.YtldbejmgalhdaaaGreat
open Go.RowKit
-- term trFeHolds: call Tryz.prog ctE5 (Lt.of []) 100 32 (symArgs 0 [feat, feat]) [] 0
def trFeHolds : TT OpR :=
(.ite (.not (.fn 76 (.i (.var 0) (.i (.var 1) (.i (.var 2) (.i (.var 3) (.i (.var 4) (.x (.var 5) (.i (.var 6) (.i (.var 7) (.x (.var 8) .nil)))))))))))
 (.ret ((.tup [(.one (.z (.bool (.lit false)))), (.one (.z (.int .i64 (.lit 1))))]), [], 2))
 (.ite (.not (.fn 76 (.i (.var 9) (.i (.var 10) (.i (.var 11) (.i (.var 12) (.i (.var 13) (.x (.var 14) (.i (.var 15) (.i (.var 16) (.x (.var 17) .nil)))))))))))
 (.ret ((.tup [(.one (.z (.bool (.lit false)))), (.one (.z (.int .i64 (.lit 1))))]), [], 2))
 (.ite (.cmp .eql (.var 1) (.lit 4))
 (.ite (.cmp .eql (.var 10) (.lit 4))
 (.ret ((.tup [(.one (.z (.bool (.lit true)))), (.one (.z (.int .i64 (.lit 0))))]), [], 6))
 (.ite (.cmp .eql (.var 10) (.lit 3))
 (.ite (.cmp .eql (.var 10) (.lit 3))
 (.ret ((.tup [(.one (.z (.bool (.lit false)))), (.one (.z (.int .i64 (.lit 0))))]), [], 6))
 (.ret ((.tup [(.one (.z (.bool (.lit false)))), (.one (.z (.int .i64 (.lit 0))))]), [], 6)))
 (.ite (.cmp .eql (.var 10) (.lit 6))
 (.ret ((.tup [(.one (.z (.bool (.lit false)))), (.one (.z (.int .i64 (.lit 0))))]), [], 6))
 (.ret ((.tup [(.one (.z (.bool (.lit false)))), (.one (.z (.int .i64 (.lit 0))))]), [], 6)))))
 (.ite (.cmp .eql (.var 1) (.lit 3))
 (.ite (.cmp .eql (.var 1) (.lit 3))
 (.ite (.cmp .eql (.var 10) (.lit 4))
 (.ret ((.tup [(.one (.z (.bool (.lit true)))), (.one (.z (.int .i64 (.lit 0))))]), [], 4))
 (.ite (.cmp .eql (.var 10) (.lit 3))
 (.ite (.cmp .eql (.var 10) (.lit 3))
 (.ite (.cmp .eql (.fn 112 (.x (.var 5) (.x (.var 14) .nil))) (.lit 0))
 (.ret ((.tup [(.one (.z (.bool (.fn 118 (.x (.var 5) (.x (.var 14) .nil)))))), (.one (.z (.int .i64 (.lit 0))))]), [], 4))
 (.ret ((.tup [(.one (.z (.bool (.lit false)))), (.one (.z (.int .i64 (.lit 0))))]), [], 4)))
 (.ite (.cmp .eql (.fn 114 (.x (.var 5) (.i (.var 11) (.i (.var 12) (.i (.var 13) .nil))))) (.lit 0))
 (.ret ((.tup [(.one (.z (.bool (.cmp .eql (.fn 113 (.x (.var 5) (.i (.var 11) (.i (.var 12) (.i (.var 13) .nil))))) (.lit 1))))), (.one (.z (.int .i64 (.lit 0))))]), [], 5))
 (.ret ((.tup [(.one (.z (.bool (.lit false)))), (.one (.z (.int .i64 (.lit 0))))]), [], 5))))
 (.ite (.cmp .eql (.var 10) (.lit 6))
 (.ite (.cmp .eql (.fn 112 (.x (.var 5) (.x (.var 14) .nil))) (.lit 0))
 (.ret ((.tup [(.one (.z (.bool (.fn 118 (.x (.var 5) (.x (.var 14) .nil)))))), (.one (.z (.int .i64 (.lit 0))))]), [], 4))
 (.ret ((.tup [(.one (.z (.bool (.lit false)))), (.one (.z (.int .i64 (.lit 0))))]), [], 4)))
 (.ite (.cmp .eql (.fn 114 (.x (.var 5) (.i (.var 11) (.i (.var 12) (.i (.var 13) .nil))))) (.lit 0))
 (.ret ((.tup [(.one (.z (.bool (.cmp .eql (.fn 113 (.x (.var 5) (.i (.var 11) (.i (.var 12) (.i (.var 13) .nil))))) (.lit 1))))), (.one (.z (.int .i64 (.lit 0))))]), [], 5))
 (.ret ((.tup [(.one (.z (.bool (.lit false)))), (.one (.z (.int .i64 (.lit 0))))]), [], 5))))))
 (.ite (.cmp .eql (.var 10) (.lit 4))
 (.ret ((.tup [(.one (.z (.bool (.lit true)))), (.one (.z (.int .i64 (.lit 0))))]), [], 5))
 (.ite (.cmp .eql (.var 10) (.lit 3))
 (.ite (.cmp .eql (.var 10) (.lit 3))
 (.loop 0 6000 ⟨[(0, (.lit 0))], [], []⟩
 (.ite (.cmp .lss (.var 6000) (.len (.var 14)))
 (.ob (.tru (.cmp .leq (.lit 0) (.var 6000)))
 (.ob (.tru (.cmp .lss (.var 6000) (.len (.var 14))))
 (.ite (.cmp .eql (.fn 13 (.i (.rd (.var 14) (.var 6000) 0) (.i (.rd (.var 14) (.var 6000) 1) (.i (.var 2) (.i (.var 3) (.i (.var 2) (.i (.var 3) (.i (.var 4) .nil)))))))) (.lit 0))
 (.ite (.not (.fn 7 (.i (.rd (.var 14) (.var 6000) 0) (.i (.rd (.var 14) (.var 6000) 1) (.i (.var 2) (.i (.var 3) (.i (.var 2) (.i (.var 3) (.i (.var 4) .nil)))))))))
 (.ret ((.tup [(.one (.z (.bool (.not (.cmp .geq (.var 6000) (.lit 0)))))), (.one (.z (.int .i64 (.lit 0))))]), [], 9))
 (.next 0 ⟨[(0, (.ar .add .i64 (.var 6000) (.lit 1)))], [], []⟩))
 (.ret ((.tup [(.one (.z (.bool (.not (.cmp .geq (.var 6000) (.lit 0)))))), (.one (.z (.int .i64 (.lit 0))))]), [], 9)))))
 (.ret ((.tup [(.one (.z (.bool (.lit true)))), (.one (.z (.int .i64 (.lit 0))))]), [], 9))))
 (.ite (.cmp .eql (.fn 111 (.i (.var 11) (.i (.var 12) (.i (.var 13) (.i (.var 2) (.i (.var 3) (.i (.var 4) .nil))))))) (.lit 0))
 (.ret ((.tup [(.one (.z (.bool (.fn 111 (.i (.var 11) (.i (.var 12) (.i (.var 13) (.i (.var 2) (.i (.var 3) (.i (.var 4) .nil)))))))))), (.one (.z (.int .i64 (.lit 0))))]), [], 6))
 (.ret ((.tup [(.one (.z (.bool (.lit false)))), (.one (.z (.int .i64 (.lit 0))))]), [], 6))))
 (.ite (.cmp .eql (.var 10) (.lit 6))
 (.loop 0 6000 ⟨[(0, (.lit 0))], [], []⟩
 (.ite (.cmp .lss (.var 6000) (.len (.var 14)))
 (.ob (.tru (.cmp .leq (.lit 0) (.var 6000)))
 (.ob (.tru (.cmp .lss (.var 6000) (.len (.var 14))))
 (.ite (.cmp .eql (.fn 13 (.i (.rd (.var 14) (.var 6000) 0) (.i (.rd (.var 14) (.var 6000) 1) (.i (.var 2) (.i (.var 3) (.i (.var 2) (.i (.var 3) (.i (.var 4) .nil)))))))) (.lit 0))
 (.ite (.not (.fn 7 (.i (.rd (.var 14) (.var 6000) 0) (.i (.rd (.var 14) (.var 6000) 1) (.i (.var 2) (.i (.var 3) (.i (.var 2) (.i (.var 3) (.i (.var 4) .nil)))))))))
 (.ret ((.tup [(.one (.z (.bool (.not (.cmp .geq (.var 6000) (.lit 0)))))), (.one (.z (.int .i64 (.lit 0))))]), [], 9))
 (.next 0 ⟨[(0, (.ar .add .i64 (.var 6000) (.lit 1)))], [], []⟩))
 (.ret ((.tup [(.one (.z (.bool (.not (.cmp .geq (.var 6000) (.lit 0)))))), (.one (.z (.int .i64 (.lit 0))))]), [], 9)))))
 (.ret ((.tup [(.one (.z (.bool (.lit true)))), (.one (.z (.int .i64 (.lit 0))))]), [], 9))))
 (.ite (.cmp .eql (.fn 111 (.i (.var 11) (.i (.var 12) (.i (.var 13) (.i (.var 2) (.i (.var 3) (.i (.var 4) .nil))))))) (.lit 0))
 (.ret ((.tup [(.one (.z (.bool (.fn 111 (.i (.var 11) (.i (.var 12) (.i (.var 13) (.i (.var 2) (.i (.var 3) (.i (.var 4) .nil)))))))))), (.one (.z (.int .i64 (.lit 0))))]), [], 6))
 (.ret ((.tup [(.one (.z (.bool (.lit false)))), (.one (.z (.int .i64 (.lit 0))))]), [], 6)))))))
 (.ite (.cmp .eql (.var 1) (.lit 6))
 (.ite (.cmp .eql (.var 10) (.lit 4))
 (.ret ((.tup [(.one (.z (.bool (.lit true)))), (.one (.z (.int .i64 (.lit 0))))]), [], 4))
 (.ite (.cmp .eql (.var 10) (.lit 3))
 (.ite (.cmp .eql (.var 10) (.lit 3))
 (.ite (.cmp .eql (.fn 112 (.x (.var 5) (.x (.var 14) .nil))) (.lit 0))
 (.ret ((.tup [(.one (.z (.bool (.fn 118 (.x (.var 5) (.x (.var 14) .nil)))))), (.one (.z (.int .i64 (.lit 0))))]), [], 4))
 (.ret ((.tup [(.one (.z (.bool (.lit false)))), (.one (.z (.int .i64 (.lit 0))))]), [], 4)))
 (.ite (.cmp .eql (.fn 114 (.x (.var 5) (.i (.var 11) (.i (.var 12) (.i (.var 13) .nil))))) (.lit 0))
 (.ret ((.tup [(.one (.z (.bool (.cmp .eql (.fn 113 (.x (.var 5) (.i (.var 11) (.i (.var 12) (.i (.var 13) .nil))))) (.lit 1))))), (.one (.z (.int .i64 (.lit 0))))]), [], 5))
 (.ret ((.tup [(.one (.z (.bool (.lit false)))), (.one (.z (.int .i64 (.lit 0))))]), [], 5))))
 (.ite (.cmp .eql (.var 10) (.lit 6))
 (.ite (.cmp .eql (.fn 112 (.x (.var 5) (.x (.var 14) .nil))) (.lit 0))
 (.ret ((.tup [(.one (.z (.bool (.fn 118 (.x (.var 5) (.x (.var 14) .nil)))))), (.one (.z (.int .i64 (.lit 0))))]), [], 4))
 (.ret ((.tup [(.one (.z (.bool (.lit false)))), (.one (.z (.int .i64 (.lit 0))))]), [], 4)))
 (.ite (.cmp .eql (.fn 114 (.x (.var 5) (.i (.var 11) (.i (.var 12) (.i (.var 13) .nil))))) (.lit 0))
 (.ret ((.tup [(.one (.z (.bool (.cmp .eql (.fn 113 (.x (.var 5) (.i (.var 11) (.i (.var 12) (.i (.var 13) .nil))))) (.lit 1))))), (.one (.z (.int .i64 (.lit 0))))]), [], 5))
 (.ret ((.tup [(.one (.z (.bool (.lit false)))), (.one (.z (.int .i64 (.lit 0))))]), [], 5))))))
 (.ite (.cmp .eql (.var 10) (.lit 4))
 (.ret ((.tup [(.one (.z (.bool (.lit true)))), (.one (.z (.int .i64 (.lit 0))))]), [], 5))
 (.ite (.cmp .eql (.var 10) (.lit 3))
 (.ite (.cmp .eql (.var 10) (.lit 3))
 (.loop 0 6000 ⟨[(0, (.lit 0))], [], []⟩
 (.ite (.cmp .lss (.var 6000) (.len (.var 14)))
 (.ob (.tru (.cmp .leq (.lit 0) (.var 6000)))
 (.ob (.tru (.cmp .lss (.var 6000) (.len (.var 14))))
 (.ite (.cmp .eql (.fn 13 (.i (.rd (.var 14) (.var 6000) 0) (.i (.rd (.var 14) (.var 6000) 1) (.i (.var 2) (.i (.var 3) (.i (.var 2) (.i (.var 3) (.i (.var 4) .nil)))))))) (.lit 0))
 (.ite (.not (.fn 7 (.i (.rd (.var 14) (.var 6000) 0) (.i (.rd (.var 14) (.var 6000) 1) (.i (.var 2) (.i (.var 3) (.i (.var 2) (.i (.var 3) (.i (.var 4) .nil)))))))))
 (.ret ((.tup [(.one (.z (.bool (.not (.cmp .geq (.var 6000) (.lit 0)))))), (.one (.z (.int .i64 (.lit 0))))]), [], 9))
 (.next 0 ⟨[(0, (.ar .add .i64 (.var 6000) (.lit 1)))], [], []⟩))
 (.ret ((.tup [(.one (.z (.bool (.not (.cmp .geq (.var 6000) (.lit 0)))))), (.one (.z (.int .i64 (.lit 0))))]), [], 9)))))
 (.ret ((.tup [(.one (.z (.bool (.lit true)))), (.one (.z (.int .i64 (.lit 0))))]), [], 9))))
 (.ite (.cmp .eql (.fn 111 (.i (.var 11) (.i (.var 12) (.i (.var 13) (.i (.var 2) (.i (.var 3) (.i (.var 4) .nil))))))) (.lit 0))
 (.ret ((.tup [(.one (.z (.bool (.fn 111 (.i (.var 11) (.i (.var 12) (.i (.var 13) (.i (.var 2) (.i (.var 3) (.i (.var 4) .nil)))))))))), (.one (.z (.int .i64 (.lit 0))))]), [], 6))
 (.ret ((.tup [(.one (.z (.bool (.lit false)))), (.one (.z (.int .i64 (.lit 0))))]), [], 6))))
 (.ite (.cmp .eql (.var 10) (.lit 6))
 (.loop 0 6000 ⟨[(0, (.lit 0))], [], []⟩
 (.ite (.cmp .lss (.var 6000) (.len (.var 14)))
 (.ob (.tru (.cmp .leq (.lit 0) (.var 6000)))
 (.ob (.tru (.cmp .lss (.var 6000) (.len (.var 14))))
 (.ite (.cmp .eql (.fn 13 (.i (.rd (.var 14) (.var 6000) 0) (.i (.rd (.var 14) (.var 6000) 1) (.i (.var 2) (.i (.var 3) (.i (.var 2) (.i (.var 3) (.i (.var 4) .nil)))))))) (.lit 0))
 (.ite (.not (.fn 7 (.i (.rd (.var 14) (.var 6000) 0) (.i (.rd (.var 14) (.var 6000) 1) (.i (.var 2) (.i (.var 3) (.i (.var 2) (.i (.var 3) (.i (.var 4) .nil)))))))))
 (.ret ((.tup [(.one (.z (.bool (.not (.cmp .geq (.var 6000) (.lit 0)))))), (.one (.z (.int .i64 (.lit 0))))]), [], 9))
 (.next 0 ⟨[(0, (.ar .add .i64 (.var 6000) (.lit 1)))], [], []⟩))
 (.ret ((.tup [(.one (.z (.bool (.not (.cmp .geq (.var 6000) (.lit 0)))))), (.one (.z (.int .i64 (.lit 0))))]), [], 9)))))
 (.ret ((.tup [(.one (.z (.bool (.lit true)))), (.one (.z (.int .i64 (.lit 0))))]), [], 9))))
 (.ite (.cmp .eql (.fn 111 (.i (.var 11) (.i (.var 12) (.i (.var 13) (.i (.var 2) (.i (.var 3) (.i (.var 4) .nil))))))) (.lit 0))
 (.ret ((.tup [(.one (.z (.bool (.fn 111 (.i (.var 11) (.i (.var 12) (.i (.var 13) (.i (.var 2) (.i (.var 3) (.i (.var 4) .nil)))))))))), (.one (.z (.int .i64 (.lit 0))))]), [], 6))
 (.ret ((.tup [(.one (.z (.bool (.lit false)))), (.one (.z (.int .i64 (.lit 0))))]), [], 6)))))))))))
-- end trFeHolds
def trFeHolds_h : List (Nat × St) := [
(5, ⟨([(.v (.one (.z (.ext [(.int .i64), (.int .i64)] (.var 14) false)))), (.v (.one (.z (.clo 119 [(4, 0)])))), (.v (.one (.z .any))), (.v (.one (.z .any))), (.v (.one (.z (.int .i64 (.lit 0))))), (.v (.one (.z .any))), (.v (.one (.z (.ext [(.int .i64), (.int .i64)] (.var 14) false)))), (.v (.one (.z (.int .i64 (.len (.var 14)))))), (.v (.one (.z (.int .i64 (.var 6000)))))] ++ List.replicate 10 V.any), [(4, (.cells 72 [(.z (.int .i64 (.var 2))), (.z (.int .i64 (.var 3))), (.z (.int .i64 (.var 4)))]))], 6, []⟩)]
def trFeHolds_j : List (FuncId × Nat × Nat × St) := [
]
set_option maxRecDepth 100000 in
theorem trFeHolds_is : T.norm 0 (call Tryz.prog ctE5 ⟨Lt.un (Lt.of []), trFeHolds_h, trFeHolds_j⟩ 100 32 (symArgs 0 [feat, feat]) [] 0) TT.ret = trFeHolds := by kernel_rfl
theorem trFeHolds_low : trFeHolds.low 1000 = true := by kernel_rfl
-- term trFeTouch: call Tryz.prog ctE5 (Lt.of []) 100 37 (symArgs 0 [feat, feat]) [] 0
def trFeTouch : TT OpR :=
(.ite (.not (.fn 76 (.i (.var 0) (.i (.var 1) (.i (.var 2) (.i (.var 3) (.i (.var 4) (.x (.var 5) (.i (.var 6) (.i (.var 7) (.x (.var 8) .nil)))))))))))
 (.ret ((.tup [(.one (.z (.bool (.lit false)))), (.one (.z (.int .i64 (.lit 1))))]), [], 2))
 (.ite (.not (.fn 76 (.i (.var 9) (.i (.var 10) (.i (.var 11) (.i (.var 12) (.i (.var 13) (.x (.var 14) (.i (.var 15) (.i (.var 16) (.x (.var 17) .nil)))))))))))
 (.ret ((.tup [(.one (.z (.bool (.lit false)))), (.one (.z (.int .i64 (.lit 1))))]), [], 2))
 (.ite (.cmp .eql (.var 1) (.lit 4))
 (.ite (.cmp .eql (.var 10) (.lit 4))
 (.ret ((.tup [(.one (.z (.bool (.lit false)))), (.one (.z (.int .i64 (.lit 0))))]), [], 5))
 (.ite (.cmp .eql (.var 10) (.lit 3))
 (.ite (.cmp .eql (.var 10) (.lit 3))
 (.ret ((.tup [(.one (.z (.bool (.lit false)))), (.one (.z (.int .i64 (.lit 0))))]), [], 5))
 (.ret ((.tup [(.one (.z (.bool (.lit false)))), (.one (.z (.int .i64 (.lit 0))))]), [], 5)))
 (.ite (.cmp .eql (.var 10) (.lit 6))
 (.ret ((.tup [(.one (.z (.bool (.lit false)))), (.one (.z (.int .i64 (.lit 0))))]), [], 5))
 (.ret ((.tup [(.one (.z (.bool (.lit false)))), (.one (.z (.int .i64 (.lit 0))))]), [], 5)))))
 (.ite (.cmp .eql (.var 1) (.lit 3))
 (.ite (.cmp .eql (.var 1) (.lit 3))
 (.ite (.cmp .eql (.var 10) (.lit 4))
 (.ret ((.tup [(.one (.z (.bool (.lit false)))), (.one (.z (.int .i64 (.lit 0))))]), [], 4))
 (.ite (.cmp .eql (.var 10) (.lit 3))
 (.ite (.cmp .eql (.var 10) (.lit 3))
 (.ite (.cmp .eql (.fn 112 (.x (.var 5) (.x (.var 14) .nil))) (.lit 0))
 (.ret ((.tup [(.one (.z (.bool (.fn 112 (.x (.var 5) (.x (.var 14) .nil)))))), (.one (.z (.int .i64 (.lit 0))))]), [], 4))
 (.ret ((.tup [(.one (.z (.bool (.lit false)))), (.one (.z (.int .i64 (.lit 0))))]), [], 4)))
 (.ite (.cmp .eql (.fn 114 (.x (.var 5) (.i (.var 11) (.i (.var 12) (.i (.var 13) .nil))))) (.lit 0))
 (.ret ((.tup [(.one (.z (.bool (.cmp .geq (.fn 113 (.x (.var 5) (.i (.var 11) (.i (.var 12) (.i (.var 13) .nil))))) (.lit 0))))), (.one (.z (.int .i64 (.lit 0))))]), [], 5))
 (.ret ((.tup [(.one (.z (.bool (.lit false)))), (.one (.z (.int .i64 (.lit 0))))]), [], 5))))
 (.ite (.cmp .eql (.var 10) (.lit 6))
 (.ite (.cmp .eql (.fn 112 (.x (.var 5) (.x (.var 14) .nil))) (.lit 0))
 (.ret ((.tup [(.one (.z (.bool (.fn 112 (.x (.var 5) (.x (.var 14) .nil)))))), (.one (.z (.int .i64 (.lit 0))))]), [], 4))
 (.ret ((.tup [(.one (.z (.bool (.lit false)))), (.one (.z (.int .i64 (.lit 0))))]), [], 4)))
 (.ite (.cmp .eql (.fn 114 (.x (.var 5) (.i (.var 11) (.i (.var 12) (.i (.var 13) .nil))))) (.lit 0))
 (.ret ((.tup [(.one (.z (.bool (.cmp .geq (.fn 113 (.x (.var 5) (.i (.var 11) (.i (.var 12) (.i (.var 13) .nil))))) (.lit 0))))), (.one (.z (.int .i64 (.lit 0))))]), [], 5))
 (.ret ((.tup [(.one (.z (.bool (.lit false)))), (.one (.z (.int .i64 (.lit 0))))]), [], 5))))))
 (.ite (.cmp .eql (.var 10) (.lit 4))
 (.ret ((.tup [(.one (.z (.bool (.lit false)))), (.one (.z (.int .i64 (.lit 0))))]), [], 5))
 (.ite (.cmp .eql (.var 10) (.lit 3))
 (.ite (.cmp .eql (.var 10) (.lit 3))
 (.ite (.cmp .eql (.fn 114 (.x (.var 14) (.i (.var 2) (.i (.var 3) (.i (.var 4) .nil))))) (.lit 0))
 (.ret ((.tup [(.one (.z (.bool (.cmp .geq (.fn 113 (.x (.var 14) (.i (.var 2) (.i (.var 3) (.i (.var 4) .nil))))) (.lit 0))))), (.one (.z (.int .i64 (.lit 0))))]), [], 6))
 (.ret ((.tup [(.one (.z (.bool (.lit false)))), (.one (.z (.int .i64 (.lit 0))))]), [], 6)))
 (.ite (.cmp .eql (.fn 13 (.i (.var 11) (.i (.var 12) (.i (.var 2) (.i (.var 3) (.i (.var 2) (.i (.var 3) (.i (.ar .add .i64 (.var 13) (.var 4)) .nil)))))))) (.lit 0))
 (.ret ((.tup [(.one (.z (.bool (.fn 7 (.i (.var 11) (.i (.var 12) (.i (.var 2) (.i (.var 3) (.i (.var 2) (.i (.var 3) (.i (.ar .add .i64 (.var 13) (.var 4)) .nil))))))))))), (.one (.z (.int .i64 (.lit 0))))]), [], 6))
 (.ret ((.tup [(.one (.z (.bool (.lit false)))), (.one (.z (.int .i64 (.lit 0))))]), [], 6))))
 (.ite (.cmp .eql (.var 10) (.lit 6))
 (.ite (.cmp .eql (.fn 114 (.x (.var 14) (.i (.var 2) (.i (.var 3) (.i (.var 4) .nil))))) (.lit 0))
 (.ret ((.tup [(.one (.z (.bool (.cmp .geq (.fn 113 (.x (.var 14) (.i (.var 2) (.i (.var 3) (.i (.var 4) .nil))))) (.lit 0))))), (.one (.z (.int .i64 (.lit 0))))]), [], 6))
 (.ret ((.tup [(.one (.z (.bool (.lit false)))), (.one (.z (.int .i64 (.lit 0))))]), [], 6)))
 (.ite (.cmp .eql (.fn 13 (.i (.var 11) (.i (.var 12) (.i (.var 2) (.i (.var 3) (.i (.var 2) (.i (.var 3) (.i (.ar .add .i64 (.var 13) (.var 4)) .nil)))))))) (.lit 0))
 (.ret ((.tup [(.one (.z (.bool (.fn 7 (.i (.var 11) (.i (.var 12) (.i (.var 2) (.i (.var 3) (.i (.var 2) (.i (.var 3) (.i (.ar .add .i64 (.var 13) (.var 4)) .nil))))))))))), (.one (.z (.int .i64 (.lit 0))))]), [], 6))
 (.ret ((.tup [(.one (.z (.bool (.lit false)))), (.one (.z (.int .i64 (.lit 0))))]), [], 6)))))))
 (.ite (.cmp .eql (.var 1) (.lit 6))
 (.ite (.cmp .eql (.var 10) (.lit 4))
 (.ret ((.tup [(.one (.z (.bool (.lit false)))), (.one (.z (.int .i64 (.lit 0))))]), [], 4))
 (.ite (.cmp .eql (.var 10) (.lit 3))
 (.ite (.cmp .eql (.var 10) (.lit 3))
 (.ite (.cmp .eql (.fn 112 (.x (.var 5) (.x (.var 14) .nil))) (.lit 0))
 (.ret ((.tup [(.one (.z (.bool (.fn 112 (.x (.var 5) (.x (.var 14) .nil)))))), (.one (.z (.int .i64 (.lit 0))))]), [], 4))
 (.ret ((.tup [(.one (.z (.bool (.lit false)))), (.one (.z (.int .i64 (.lit 0))))]), [], 4)))
 (.ite (.cmp .eql (.fn 114 (.x (.var 5) (.i (.var 11) (.i (.var 12) (.i (.var 13) .nil))))) (.lit 0))
 (.ret ((.tup [(.one (.z (.bool (.cmp .geq (.fn 113 (.x (.var 5) (.i (.var 11) (.i (.var 12) (.i (.var 13) .nil))))) (.lit 0))))), (.one (.z (.int .i64 (.lit 0))))]), [], 5))
 (.ret ((.tup [(.one (.z (.bool (.lit false)))), (.one (.z (.int .i64 (.lit 0))))]), [], 5))))
 (.ite (.cmp .eql (.var 10) (.lit 6))
 (.ite (.cmp .eql (.fn 112 (.x (.var 5) (.x (.var 14) .nil))) (.lit 0))
 (.ret ((.tup [(.one (.z (.bool (.fn 112 (.x (.var 5) (.x (.var 14) .nil)))))), (.one (.z (.int .i64 (.lit 0))))]), [], 4))
 (.ret ((.tup [(.one (.z (.bool (.lit false)))), (.one (.z (.int .i64 (.lit 0))))]), [], 4)))
 (.ite (.cmp .eql (.fn 114 (.x (.var 5) (.i (.var 11) (.i (.var 12) (.i (.var 13) .nil))))) (.lit 0))
 (.ret ((.tup [(.one (.z (.bool (.cmp .geq (.fn 113 (.x (.var 5) (.i (.var 11) (.i (.var 12) (.i (.var 13) .nil))))) (.lit 0))))), (.one (.z (.int .i64 (.lit 0))))]), [], 5))
 (.ret ((.tup [(.one (.z (.bool (.lit false)))), (.one (.z (.int .i64 (.lit 0))))]), [], 5))))))
 (.ite (.cmp .eql (.var 10) (.lit 4))
 (.ret ((.tup [(.one (.z (.bool (.lit false)))), (.one (.z (.int .i64 (.lit 0))))]), [], 5))
 (.ite (.cmp .eql (.var 10) (.lit 3))
 (.ite (.cmp .eql (.var 10) (.lit 3))
 (.ite (.cmp .eql (.fn 114 (.x (.var 14) (.i (.var 2) (.i (.var 3) (.i (.var 4) .nil))))) (.lit 0))
 (.ret ((.tup [(.one (.z (.bool (.cmp .geq (.fn 113 (.x (.var 14) (.i (.var 2) (.i (.var 3) (.i (.var 4) .nil))))) (.lit 0))))), (.one (.z (.int .i64 (.lit 0))))]), [], 6))
 (.ret ((.tup [(.one (.z (.bool (.lit false)))), (.one (.z (.int .i64 (.lit 0))))]), [], 6)))
 (.ite (.cmp .eql (.fn 13 (.i (.var 11) (.i (.var 12) (.i (.var 2) (.i (.var 3) (.i (.var 2) (.i (.var 3) (.i (.ar .add .i64 (.var 13) (.var 4)) .nil)))))))) (.lit 0))
 (.ret ((.tup [(.one (.z (.bool (.fn 7 (.i (.var 11) (.i (.var 12) (.i (.var 2) (.i (.var 3) (.i (.var 2) (.i (.var 3) (.i (.ar .add .i64 (.var 13) (.var 4)) .nil))))))))))), (.one (.z (.int .i64 (.lit 0))))]), [], 6))
 (.ret ((.tup [(.one (.z (.bool (.lit false)))), (.one (.z (.int .i64 (.lit 0))))]), [], 6))))
 (.ite (.cmp .eql (.var 10) (.lit 6))
 (.ite (.cmp .eql (.fn 114 (.x (.var 14) (.i (.var 2) (.i (.var 3) (.i (.var 4) .nil))))) (.lit 0))
 (.ret ((.tup [(.one (.z (.bool (.cmp .geq (.fn 113 (.x (.var 14) (.i (.var 2) (.i (.var 3) (.i (.var 4) .nil))))) (.lit 0))))), (.one (.z (.int .i64 (.lit 0))))]), [], 6))
 (.ret ((.tup [(.one (.z (.bool (.lit false)))), (.one (.z (.int .i64 (.lit 0))))]), [], 6)))
 (.ite (.cmp .eql (.fn 13 (.i (.var 11) (.i (.var 12) (.i (.var 2) (.i (.var 3) (.i (.var 2) (.i (.var 3) (.i (.ar .add .i64 (.var 13) (.var 4)) .nil)))))))) (.lit 0))
 (.ret ((.tup [(.one (.z (.bool (.fn 7 (.i (.var 11) (.i (.var 12) (.i (.var 2) (.i (.var 3) (.i (.var 2) (.i (.var 3) (.i (.ar .add .i64 (.var 13) (.var 4)) .nil))))))))))), (.one (.z (.int .i64 (.lit 0))))]), [], 6))
 (.ret ((.tup [(.one (.z (.bool (.lit false)))), (.one (.z (.int .i64 (.lit 0))))]), [], 6)))))))))))
-- end trFeTouch
set_option maxRecDepth 100000 in
theorem trFeTouch_is : T.norm 0 (call Tryz.prog ctE5 (Lt.of []) 100 37 (symArgs 0 [feat, feat]) [] 0) TT.ret = trFeTouch := by kernel_rfl
theorem trFeTouch_low : trFeTouch.low 1000 = true := by kernel_rfl
end Go.Proofs.YtldbejmgalhdaaaGreat
/- Chapter 07: feature.Holds, feature.Touch. -/
namespace Go.Proofs.YtldbejmgalhdaaaGreat
open Go.RowKit
def allD (a : Rows) (x y r : Int) : Nat → Nat → Bool
  | 0, _ => true
  | f + 1, i => nearB (lg a i 0) (lg a i 1) x y x y r && allD a x y r f (i + 1)
def holdX (k1 x1 y1 r1 : Int) (a1 : Rows) (k2 x2 y2 r2 : Int) (a2 : Rows) : Bool :=
  if k1 = 4 then decide (k2 = 4)
  else if k1 = 3 ∨ k1 = 6 then (if k2 = 4 then true else if k2 = 3 ∨ k2 = 6 then hoX a1 a2 else decide (disX a1 x2 y2 r2 = 1))
  else (if k2 = 4 then true else if k2 = 3 ∨ k2 = 6 then allD a2 x1 y1 r1 a2.length 0 else liesB x2 y2 r2 x1 y1 r1)
def touchX (k1 x1 y1 r1 : Int) (a1 : Rows) (k2 x2 y2 r2 : Int) (a2 : Rows) : Bool :=
  if k1 = 4 ∨ k2 = 4 then false
  else if k1 = 3 ∨ k1 = 6 then (if k2 = 3 ∨ k2 = 6 then touX a1 a2 else decide (0 ≤ disX a1 x2 y2 r2))
  else (if k2 = 3 ∨ k2 = 6 then decide (0 ≤ disX a2 x1 y1 r1) else nearB x2 y2 x1 y1 x1 y1 (r2 + r1))
def two9 (ds : List D) : Bool := featB (iAt ds 0) (iAt ds 1) (iAt ds 2) (iAt ds 3) (iAt ds 4) (rAt ds 5) (iAt ds 6) (iAt ds 7) (rAt ds 8) && featB (iAt ds 9) (iAt ds 10) (iAt ds 11) (iAt ds 12) (iAt ds 13) (rAt ds 14) (iAt ds 15) (iAt ds 16) (rAt ds 17)
def feE (ds : List D) : Int := if two9 ds then 0 else 1
def feHoR (ds : List D) : Bool := two9 ds && holdX (iAt ds 1) (iAt ds 2) (iAt ds 3) (iAt ds 4) (rAt ds 5) (iAt ds 10) (iAt ds 11) (iAt ds 12) (iAt ds 13) (rAt ds 14)
def feToR (ds : List D) : Bool := two9 ds && touchX (iAt ds 1) (iAt ds 2) (iAt ds 3) (iAt ds 4) (rAt ds 5) (iAt ds 10) (iAt ds 11) (iAt ds 12) (iAt ds 13) (rAt ds 14)
theorem K75b76 (W : World) (ds l : List D) : (envOf K75 W ds).fb 76 l = featL l := by simp only [envOf, K75, K74, K73, K72, K71, KI, KH, KG, KF]
theorem K75b118 (W : World) (ds l : List D) : (envOf K75 W ds).fb 118 l = hoR l := by simp only [envOf, K75]
theorem K75b112 (W : World) (ds l : List D) : (envOf K75 W ds).fb 112 l = touR l := by simp only [envOf, K75, K74, K73, K72]
theorem K75i112 (W : World) (ds l : List D) : (envOf K75 W ds).fi 112 l = touE l := by simp only [envOf, K75, K74, K73, K72]
theorem K75i113 (W : World) (ds l : List D) : (envOf K75 W ds).fi 113 l = disR l := by simp only [envOf, K75, K74, K73, K72]
theorem K75i114 (W : World) (ds l : List D) : (envOf K75 W ds).fi 114 l = disE l := by simp only [envOf, K75, K74, K73, K72]
theorem K75b7 (W : World) (ds l : List D) : (envOf K75 W ds).fb 7 l = nearR l := by simp only [envOf, K75, K74, K73, K72, K71, KI, KH, KG, KF, KE, KD, KC, KB, KA, K9, K8, K7, K6, K5, K]
theorem K75i13 (W : World) (ds l : List D) : (envOf K75 W ds).fi 13 l = nearE l := by simp only [envOf, K75, K74, K73, K72, K71, KI, KH, KG, KF, KE, KD, KC, KB, KA, K9, K8, K7, K6, K5, K]
theorem K75b111 (W : World) (ds l : List D) : (envOf K75 W ds).fb 111 l = lieR l := by simp only [envOf, K75, K74, K73, K72, K71]
theorem K75i111 (W : World) (ds l : List D) : (envOf K75 W ds).fi 111 l = lieE l := by simp only [envOf, K75, K74, K73, K72, K71]
section
variable {id1 k1 x1 y1 r1 d1 s1 id2 k2 x2 y2 r2 d2 s2 : Int} {a1 t1 a2 t2 : Rows}
theorem feat_area (h : featB id1 k1 x1 y1 r1 a1 d1 s1 t1 = true) (hk : k1 = 3 ∨ k1 = 6) : polyB a1 = true := by
  have := (featB_iff.mp h).2.2.2.2
  rcases this with q | q | q
  · omega
  · exact q.2.1
  · omega
theorem feat_disc (h : featB id1 k1 x1 y1 r1 a1 d1 s1 t1 = true) (h3 : k1 ≠ 3) (h6 : k1 ≠ 6) : placeB x1 y1 = true ∧ 0 ≤ r1 ∧ r1 ≤ 100000 := by
  obtain ⟨_, _, _, hr, this⟩ := featB_iff.mp h
  rcases this with q | q | q
  · exact ⟨q.2.1, hr⟩
  · omega
  · exact ⟨q.2.1, hr⟩
theorem ho_two (h1 : polyB a1 = true) (h2 : polyB a2 = true) : hoR [.l a1, .l a2] = hoX a1 a2 ∧ touR [.l a1, .l a2] = touX a1 a2 ∧ touE [.l a1, .l a2] = 0 := by
  have : touO [.l a1, .l a2] = true := by show (polyB a1 && polyB a2) = true; rw [h1, h2]; rfl
  unfold hoR touR touE
  rw [this]
  exact ⟨rfl, rfl, rfl⟩
theorem dis_two (h1 : polyB a1 = true) (h2 : placeB x2 y2 = true) (hr : 0 ≤ r2 ∧ r2 ≤ 3000000) : disR [.l a1, .i x2, .i y2, .i r2] = disX a1 x2 y2 r2 ∧ disE [.l a1, .i x2, .i y2, .i r2] = 0 := by
  have : disO [.l a1, .i x2, .i y2, .i r2] = true := by
    show (polyB a1 && placeB x2 y2 && distB r2) = true
    rw [h1, h2, distB, decide_eq_true hr]; rfl
  unfold disR disE
  rw [this]
  exact ⟨rfl, rfl⟩
theorem lie_two (h1 : placeB x1 y1 = true) (h2 : placeB x2 y2 = true) (hr : 0 ≤ r1 ∧ r1 ≤ 3000000) (hr' : 0 ≤ r2 ∧ r2 ≤ 3000000) : lieR [.i x2, .i y2, .i r2, .i x1, .i y1, .i r1] = liesB x2 y2 r2 x1 y1 r1 ∧ lieE [.i x2, .i y2, .i r2, .i x1, .i y1, .i r1] = 0 := by
  have : lieO [.i x2, .i y2, .i r2, .i x1, .i y1, .i r1] = true := by
    show (placeB x2 y2 && placeB x1 y1 && distB r2 && distB r1) = true
    rw [h1, h2, distB, distB, decide_eq_true hr, decide_eq_true hr']; rfl
  unfold lieR lieE
  rw [this]
  exact ⟨rfl, rfl⟩
theorem near_two (h1 : placeB x1 y1 = true) (h2 : placeB x2 y2 = true) {r : Int} (hr : 0 ≤ r ∧ r ≤ 3000000) : nearR [.i x2, .i y2, .i x1, .i y1, .i x1, .i y1, .i r] = nearB x2 y2 x1 y1 x1 y1 r ∧ nearE [.i x2, .i y2, .i x1, .i y1, .i x1, .i y1, .i r] = 0 :=
  ⟨(nearR_eq h2 h1 h1 hr).1, (nearR_eq h2 h1 h1 hr).2⟩
end
end Go.Proofs.YtldbejmgalhdaaaGreat
/- Chapter 07: contracts of feature.Holds and feature.Touch. -/
namespace Go.Proofs.YtldbejmgalhdaaaGreat
open Go.RowKit
set_option maxHeartbeats 4000000 in
theorem gFeHolds : Gives Tryz.prog 32 [feat, feat] (fun ds => .tuple #[.bool (feHoR ds), .int .i64 (feE ds)]) := by
  refine GivesIf.all (fn_gives K75 (by kernel_rfl) (fun ρ h => ctE5_ok (Sees.of h 119)) (by kernel_rfl) trFeHolds_is trFeHolds_low (by decide) (fun W vals ds hr _ => ?_))
  simp only [trFeHolds, TT.sat_ret, TT.sat_ite, TT.sat_ob, TT.sat_next, TT.sat_stuck, put_i, put_b, put_d, put_fi, put_fb, put_fd, Ob.ok, B.ev, E.ev, X.ev, AL.ev, cmp_t, cmp_f, arEv, V.plain, V2.plain, S.plain, S0.plain, V.val, V2.val, S.val, S0.val, bV, iV, List.all_cons, List.all_nil, Bool.and_true, Bool.and_self, envOf_i, envOf_b, envOf_d, List.map_cons, List.map_nil, true_and, Bool.not_eq_true', Bool.not_eq_false', Bool.not_not, Bool.and_eq_true, and_f, cell_lg, cell_lb, cell_lr, cmpP, val_i, val_b, val_d, aget, Nat.reduceBEq, beq_self_eq_true, Bool.false_eq_true, if_true, if_false, Nat.reduceLT, Nat.reduceSub, Nat.sub_self, Nat.lt_irrefl, K75b76, K75b118, K75i112, K75i113, K75i114, K75i13, K75b7, K75b111, K75i111, feat_nine]
  have F : two9 ds = false → Value.tuple #[.bool false, .int .i64 1] = Value.tuple #[.bool (feHoR ds), .int .i64 (feE ds)] := fun h => by simp [feHoR, feE, h]
  have T : ∀ b, two9 ds = true → holdX (iAt ds 1) (iAt ds 2) (iAt ds 3) (iAt ds 4) (rAt ds 5) (iAt ds 10) (iAt ds 11) (iAt ds 12) (iAt ds 13) (rAt ds 14) = b → Value.tuple #[.bool b, .int .i64 0] = Value.tuple #[.bool (feHoR ds), .int .i64 (feE ds)] := fun b h h' => by simp [feHoR, feE, h, h']
  refine ⟨fun h => F (by simp only [two9, h, Bool.false_and]), fun f1 => ⟨fun h => F (by simp only [two9, h, Bool.and_false]), fun f2 => ?_⟩⟩
  have hO : two9 ds = true := by simp only [two9, f1, f2, Bool.and_self]
  replace T := fun b => T b hO
  clear F hr hO
  generalize iAt ds 1 = k1 at *
  generalize ex1 : iAt ds 2 = x1 at *
  generalize ey1 : iAt ds 3 = y1 at *
  generalize er1 : iAt ds 4 = r1 at *
  generalize rAt ds 5 = a1 at *
  generalize iAt ds 10 = k2 at *
  generalize iAt ds 11 = x2 at *
  generalize iAt ds 12 = y2 at *
  generalize iAt ds 13 = r2 at *
  generalize ea2 : rAt ds 14 = a2 at *
  have A1 := feat_area f1
  have A2 := feat_area f2
  have D1 := feat_disc f1
  have D2 := feat_disc f2
  have H44 : k1 = 4 → holdX k1 x1 y1 r1 a1 k2 x2 y2 r2 a2 = decide (k2 = 4) := fun h => by unfold holdX; rw [if_pos h]
  have Hn4 : k1 ≠ 4 → k2 = 4 → holdX k1 x1 y1 r1 a1 k2 x2 y2 r2 a2 = true := fun h h' => by unfold holdX; simp only [if_neg h, if_pos h', ite_self]
  have HAA : (k1 = 3 ∨ k1 = 6) → (k2 = 3 ∨ k2 = 6) → holdX k1 x1 y1 r1 a1 k2 x2 y2 r2 a2 = hoX a1 a2 := fun h h' => by unfold holdX; rw [if_neg (by omega), if_pos h, if_neg (by omega), if_pos h']
  have HAD : (k1 = 3 ∨ k1 = 6) → k2 ≠ 3 → k2 ≠ 6 → k2 ≠ 4 → holdX k1 x1 y1 r1 a1 k2 x2 y2 r2 a2 = decide (disX a1 x2 y2 r2 = 1) := fun h h1 h2 h3 => by unfold holdX; rw [if_neg (by omega), if_pos h, if_neg h3, if_neg (by omega)]
  have HDA : k1 ≠ 3 → k1 ≠ 6 → k1 ≠ 4 → (k2 = 3 ∨ k2 = 6) → holdX k1 x1 y1 r1 a1 k2 x2 y2 r2 a2 = allD a2 x1 y1 r1 a2.length 0 := fun h1 h2 h3 h => by unfold holdX; rw [if_neg h3, if_neg (by omega), if_neg (by omega), if_pos h]
  have HDD : k1 ≠ 3 → k1 ≠ 6 → k1 ≠ 4 → k2 ≠ 3 → k2 ≠ 6 → k2 ≠ 4 → holdX k1 x1 y1 r1 a1 k2 x2 y2 r2 a2 = liesB x2 y2 r2 x1 y1 r1 := fun h1 h2 h3 h4 h5 h6 => by unfold holdX; rw [if_neg h3, if_neg (by omega), if_neg h6, if_neg (by omega)]
  have EAA : (k1 = 3 ∨ k1 = 6) → (k2 = 3 ∨ k2 = 6) → hoR [.l a1, .l a2] = hoX a1 a2 ∧ touE [.l a1, .l a2] = 0 := fun h h' => ⟨(ho_two (A1 h) (A2 h')).1, (ho_two (A1 h) (A2 h')).2.2⟩
  have EAD : (k1 = 3 ∨ k1 = 6) → k2 ≠ 3 → k2 ≠ 6 → disR [.l a1, .i x2, .i y2, .i r2] = disX a1 x2 y2 r2 ∧ disE [.l a1, .i x2, .i y2, .i r2] = 0 := fun h h1 h2 => dis_two (A1 h) (D2 h1 h2).1 (by have := (D2 h1 h2).2; omega)
  have EDD : k1 ≠ 3 → k1 ≠ 6 → k2 ≠ 3 → k2 ≠ 6 → lieR [.i x2, .i y2, .i r2, .i x1, .i y1, .i r1] = liesB x2 y2 r2 x1 y1 r1 ∧ lieE [.i x2, .i y2, .i r2, .i x1, .i y1, .i r1] = 0 := fun h1 h2 h3 h4 => lie_two (D1 h1 h2).1 (D2 h3 h4).1 (by have := (D1 h1 h2).2; omega) (by have := (D2 h3 h4).2; omega)
  have EDA : k1 ≠ 3 → k1 ≠ 6 → (k2 = 3 ∨ k2 = 6) → ∀ i, i < a2.length → nearR [.i (lg a2 i 0), .i (lg a2 i 1), .i x1, .i y1, .i x1, .i y1, .i r1] = nearB (lg a2 i 0) (lg a2 i 1) x1 y1 x1 y1 r1 ∧ nearE [.i (lg a2 i 0), .i (lg a2 i 1), .i x1, .i y1, .i x1, .i y1, .i r1] = 0 :=
    fun h1 h2 h i hi => near_two (D1 h1 h2).1 (polyB_pl (A2 h) hi) (by have := (D1 h1 h2).2; omega)
  have LA : (k2 = 3 ∨ k2 = 6) → 3 ≤ a2.length ∧ a2.length ≤ 24 := fun h => polyB_len (A2 h)
  clear A1 A2 D1 D2 f1 f2
  repeat' (first | (intro h; skip) | (refine And.intro ?_ ?_))
  all_goals first
    | omega
    | (refine T _ ?_; rw [H44 (by omega), decide_eq_true (by omega)])
    | (refine T _ ?_; rw [H44 (by omega), decide_eq_false (by omega)])
    | (refine T _ ?_; exact Hn4 (by omega) (by omega))
    | (rw [(EAA (by omega) (by omega)).1]; exact T _ (HAA (by omega) (by omega)))
    | (exact absurd (EAA (by omega) (by omega)).2 (by assumption))
    | (rw [(EAD (by omega) (by omega) (by omega)).1]; exact T _ (HAD (by omega) (by omega) (by omega) (by omega)))
    | (exact absurd (EAD (by omega) (by omega) (by omega)).2 (by assumption))
    | (rw [(EDD (by omega) (by omega) (by omega) (by omega)).1]; exact T _ (HDD (by omega) (by omega) (by omega) (by omega) (by omega) (by omega)))
    | (exact absurd (EDD (by omega) (by omega) (by omega) (by omega)).2 (by assumption))
    | (refine TT.sat_loop (fun v => ∃ i : Nat, v.i 0 = i ∧ i ≤ a2.length ∧ allD a2 x1 y1 r1 (a2.length - i) i = allD a2 x1 y1 r1 a2.length 0) (fun v => a2.length - (v.i 0).toNat) ⟨0, by simp [val_i, aget, E.ev], by omega, rfl⟩ (fun v hv => ?_)
       obtain ⟨i, i0, i1, i2⟩ := hv
       simp only [TT.sat_ret, TT.sat_ite, TT.sat_ob, TT.sat_next, TT.sat_stuck, put_i, put_b, put_d, put_fi, put_fb, put_fd, Ob.ok, B.ev, E.ev, X.ev, AL.ev, cmp_t, cmp_f, arEv, V.plain, V2.plain, S.plain, S0.plain, V.val, V2.val, S.val, S0.val, bV, iV, List.all_cons, List.all_nil, Bool.and_true, Bool.and_self, envOf_i, envOf_b, envOf_d, List.map_cons, List.map_nil, true_and, Bool.not_eq_true', Bool.not_eq_false', Bool.not_not, Bool.and_eq_true, and_f, cell_lg, cell_lb, cell_lr, cmpP, val_i, val_b, val_d, aget, Nat.reduceBEq, beq_self_eq_true, Bool.false_eq_true, if_true, if_false, Nat.reduceLT, Nat.reduceSub, Nat.sub_self, Nat.lt_irrefl, i0, ex1, ey1, er1, ea2, K75i13, K75b7]
       have hl := LA (by omega)
       refine ⟨fun hc => ?_, fun hc => ?_⟩
       · have hi : i < a2.length := by omega
         obtain ⟨f, hf⟩ : ∃ f, a2.length - i = f + 1 := ⟨a2.length - i - 1, by omega⟩
         have hf' : a2.length - (i + 1) = f := by omega
         rw [hf, allD] at i2
         obtain ⟨g1, g2⟩ := EDA (by omega) (by omega) (by omega) i hi
         rw [g1, g2, wrap_in ((i : Int) + 1) (by omega) (by omega)]
         refine ⟨by omega, by omega, fun _ => ⟨fun b => ?_, fun b => ⟨⟨i + 1, rfl, by omega, by rw [hf', ← i2, b]; rfl⟩, by omega⟩⟩, fun c => absurd rfl c⟩
         have hz : (!cmpEv BinOp.geq (i : Int) 0) = false := by
           have h : cmpEv BinOp.geq (i : Int) 0 = true := by
             rw [cmp_t]
             simp only [cmpP]
             omega
           rw [h]; rfl
         rw [hz]
         exact T _ (by rw [HDA (by omega) (by omega) (by omega) (by omega), ← i2, b]; rfl)
       · have h0 : a2.length - i = 0 := by omega
         rw [h0, allD] at i2
         exact T _ (by rw [HDA (by omega) (by omega) (by omega) (by omega), ← i2]))
set_option maxHeartbeats 4000000 in
theorem gFeTouch : Gives Tryz.prog 37 [feat, feat] (fun ds => .tuple #[.bool (feToR ds), .int .i64 (feE ds)]) := by
  refine GivesIf.all (fn_gives K75 (by kernel_rfl) (fun ρ h => ctE5_ok (Sees.of h 119)) (by kernel_rfl) trFeTouch_is trFeTouch_low (by decide) (fun W vals ds hr _ => ?_))
  simp only [trFeTouch, TT.sat_ret, TT.sat_ite, TT.sat_ob, TT.sat_next, TT.sat_stuck, put_i, put_b, put_d, put_fi, put_fb, put_fd, Ob.ok, B.ev, E.ev, X.ev, AL.ev, cmp_t, cmp_f, arEv, V.plain, V2.plain, S.plain, S0.plain, V.val, V2.val, S.val, S0.val, bV, iV, List.all_cons, List.all_nil, Bool.and_true, Bool.and_self, envOf_i, envOf_b, envOf_d, List.map_cons, List.map_nil, true_and, Bool.not_eq_true', Bool.not_eq_false', Bool.not_not, Bool.and_eq_true, and_f, cell_lg, cell_lb, cell_lr, cmpP, val_i, val_b, val_d, aget, Nat.reduceBEq, beq_self_eq_true, Bool.false_eq_true, if_true, if_false, Nat.reduceLT, Nat.reduceSub, Nat.sub_self, Nat.lt_irrefl, K75b76, K75b112, K75i112, K75i113, K75i114, K75i13, K75b7, feat_nine]
  have F : two9 ds = false → Value.tuple #[.bool false, .int .i64 1] = Value.tuple #[.bool (feToR ds), .int .i64 (feE ds)] := fun h => by simp [feToR, feE, h]
  have T : ∀ b, two9 ds = true → touchX (iAt ds 1) (iAt ds 2) (iAt ds 3) (iAt ds 4) (rAt ds 5) (iAt ds 10) (iAt ds 11) (iAt ds 12) (iAt ds 13) (rAt ds 14) = b → Value.tuple #[.bool b, .int .i64 0] = Value.tuple #[.bool (feToR ds), .int .i64 (feE ds)] := fun b h h' => by simp [feToR, feE, h, h']
  refine ⟨fun h => F (by simp only [two9, h, Bool.false_and]), fun f1 => ⟨fun h => F (by simp only [two9, h, Bool.and_false]), fun f2 => ?_⟩⟩
  have hO : two9 ds = true := by simp only [two9, f1, f2, Bool.and_self]
  replace T := fun b => T b hO
  clear F hr hO
  generalize iAt ds 1 = k1 at *
  generalize iAt ds 2 = x1 at *
  generalize iAt ds 3 = y1 at *
  generalize iAt ds 4 = r1 at *
  generalize rAt ds 5 = a1 at *
  generalize iAt ds 10 = k2 at *
  generalize iAt ds 11 = x2 at *
  generalize iAt ds 12 = y2 at *
  generalize iAt ds 13 = r2 at *
  generalize rAt ds 14 = a2 at *
  have A1 := feat_area f1
  have A2 := feat_area f2
  have D1 := feat_disc f1
  have D2 := feat_disc f2
  have H4 : (k1 = 4 ∨ k2 = 4) → touchX k1 x1 y1 r1 a1 k2 x2 y2 r2 a2 = false := fun h => by unfold touchX; rw [if_pos h]
  have HAA : (k1 = 3 ∨ k1 = 6) → (k2 = 3 ∨ k2 = 6) → touchX k1 x1 y1 r1 a1 k2 x2 y2 r2 a2 = touX a1 a2 := fun h h' => by unfold touchX; rw [if_neg (by omega), if_pos h, if_pos h']
  have HAD : (k1 = 3 ∨ k1 = 6) → k2 ≠ 3 → k2 ≠ 6 → k2 ≠ 4 → touchX k1 x1 y1 r1 a1 k2 x2 y2 r2 a2 = cmpEv BinOp.geq (disX a1 x2 y2 r2) 0 := fun h h1 h2 h3 => by
    unfold touchX; rw [if_neg (by omega), if_pos h, if_neg (by omega), Bool.eq_iff_iff, cmp_t]; simp only [cmpP, decide_eq_true_eq, ge_iff_le]
  have HDA : k1 ≠ 3 → k1 ≠ 6 → k1 ≠ 4 → (k2 = 3 ∨ k2 = 6) → touchX k1 x1 y1 r1 a1 k2 x2 y2 r2 a2 = cmpEv BinOp.geq (disX a2 x1 y1 r1) 0 := fun h1 h2 h3 h => by
    unfold touchX; rw [if_neg (by omega), if_neg (by omega), if_pos h, Bool.eq_iff_iff, cmp_t]; simp only [cmpP, decide_eq_true_eq, ge_iff_le]
  have HDD : k1 ≠ 3 → k1 ≠ 6 → k1 ≠ 4 → k2 ≠ 3 → k2 ≠ 6 → k2 ≠ 4 → touchX k1 x1 y1 r1 a1 k2 x2 y2 r2 a2 = nearB x2 y2 x1 y1 x1 y1 (r2 + r1) := fun h1 h2 h3 h4 h5 h6 => by unfold touchX; rw [if_neg (by omega), if_neg (by omega), if_neg (by omega)]
  have EAA : (k1 = 3 ∨ k1 = 6) → (k2 = 3 ∨ k2 = 6) → touR [.l a1, .l a2] = touX a1 a2 ∧ touE [.l a1, .l a2] = 0 := fun h h' => (ho_two (A1 h) (A2 h')).2
  have EAD : (k1 = 3 ∨ k1 = 6) → k2 ≠ 3 → k2 ≠ 6 → disR [.l a1, .i x2, .i y2, .i r2] = disX a1 x2 y2 r2 ∧ disE [.l a1, .i x2, .i y2, .i r2] = 0 := fun h h1 h2 => dis_two (A1 h) (D2 h1 h2).1 (by have := (D2 h1 h2).2; omega)
  have EDA : k1 ≠ 3 → k1 ≠ 6 → (k2 = 3 ∨ k2 = 6) → disR [.l a2, .i x1, .i y1, .i r1] = disX a2 x1 y1 r1 ∧ disE [.l a2, .i x1, .i y1, .i r1] = 0 := fun h1 h2 h => dis_two (A2 h) (D1 h1 h2).1 (by have := (D1 h1 h2).2; omega)
  have EDD : k1 ≠ 3 → k1 ≠ 6 → k2 ≠ 3 → k2 ≠ 6 → nearR [.i x2, .i y2, .i x1, .i y1, .i x1, .i y1, .i (IntKind.i64.wrap (r2 + r1))] = nearB x2 y2 x1 y1 x1 y1 (r2 + r1) ∧ nearE [.i x2, .i y2, .i x1, .i y1, .i x1, .i y1, .i (IntKind.i64.wrap (r2 + r1))] = 0 := fun h1 h2 h3 h4 => by
    have q1 := (D1 h1 h2).2
    have q2 := (D2 h3 h4).2
    rw [wrap_in (r2 + r1) (by omega) (by omega)]
    exact near_two (D1 h1 h2).1 (D2 h3 h4).1 (by omega)
  clear A1 A2 D1 D2 f1 f2
  repeat' (first | (intro h; skip) | (refine And.intro ?_ ?_))
  all_goals first
    | omega
    | exact T _ (H4 (by omega))
    | (rw [(EAA (by omega) (by omega)).1]; exact T _ (HAA (by omega) (by omega)))
    | (exact absurd (EAA (by omega) (by omega)).2 (by assumption))
    | (rw [(EAD (by omega) (by omega) (by omega)).1]; exact T _ (HAD (by omega) (by omega) (by omega) (by omega)))
    | (exact absurd (EAD (by omega) (by omega) (by omega)).2 (by assumption))
    | (rw [(EDA (by omega) (by omega) (by omega)).1]; exact T _ (HDA (by omega) (by omega) (by omega) (by omega)))
    | (exact absurd (EDA (by omega) (by omega) (by omega)).2 (by assumption))
    | (rw [(EDD (by omega) (by omega) (by omega) (by omega)).1]; exact T _ (HDD (by omega) (by omega) (by omega) (by omega) (by omega) (by omega)))
    | (exact absurd (EDD (by omega) (by omega) (by omega) (by omega)).2 (by assumption))
def K76 : Interp where
  fi n l := match n with | 119 => feE l | n => K75.fi n l
  fb n l := match n with | 119 => feHoR l | 120 => feToR l | n => K75.fb n l
  fd _ _ := []
theorem K76_K75 {ρ : Env} (h : Sees ρ K76 122) : Sees ρ K75 119 := h.trans (by decide) fun n l hn => by
  refine ⟨?_, ?_⟩
  ·
    simp only [K76]
    split <;> first | omega | rfl
  ·
    simp only [K76]
    split <;> first | omega | rfl
def cFeHolds := ctD [feat, feat] fun al => .ret (.tup [.one (sBF 119 feHoR al), .one (sIF 119 feE al)])
theorem cFeHolds_ok {ρ : Env} (h : Sees ρ K76 122) : CtOne Tryz.prog ρ 32 cFeHolds :=
  ctD_ok gFeHolds (fun _ => rfl) (fun al => by simp only [V.val, V2.val, S.val, S0.val, sIF, sBF, List.map_cons, List.map_nil, bF_ev (s := 119) (f := feHoR) (fun l => by rw [(h 119 l (by decide)).2]; simp only [K76]), iF_ev (s := 119) (f := feE) (fun l => by rw [(h 119 l (by decide)).1]; simp only [K76])]; try rfl)
def cFeTouch := ctD [feat, feat] fun al => .ret (.tup [.one (sBF 120 feToR al), .one (sIF 119 feE al)])
theorem cFeTouch_ok {ρ : Env} (h : Sees ρ K76 122) : CtOne Tryz.prog ρ 37 cFeTouch :=
  ctD_ok gFeTouch (fun _ => rfl) (fun al => by simp only [V.val, V2.val, S.val, S0.val, sIF, sBF, List.map_cons, List.map_nil, bF_ev (s := 120) (f := feToR) (fun l => by rw [(h 120 l (by decide)).2]; simp only [K76]), iF_ev (s := 119) (f := feE) (fun l => by rw [(h 119 l (by decide)).1]; simp only [K76])]; try rfl)
def ctE6 : Ct := (32, cFeHolds) :: (37, cFeTouch) :: ctE5
theorem ctE6_ok {ρ : Env} (h : Sees ρ K76 122) : CtOk Tryz.prog ρ ctE6 := .cons (cFeHolds_ok h) <| .cons (cFeTouch_ok h) (ctE5_ok (K76_K75 h))
end Go.Proofs.YtldbejmgalhdaaaGreat
