/- MV, merged: TEf, Ef, Eg, Gr, TEk, Ek, TEl, El, TEm, Em, TEh, Eh, En, TEs, Es. -/
import Derived.Test.YtglepdhapakmbaaGreatMT
import Derived.Test.YtglepdhapakmbaaGreatMK
import Derived.OwnWalk
import Derived.Maps.AppendAt
set_option linter.unusedSimpArgs false
set_option linter.unusedVariables false
/- Chapter 07: trees of feature.Holds, feature.Touch. -/
namespace Go.Proofs.YtglepdhapakmbaaGreat
open Go.RowKit
-- term trFeHolds: call Tryz.prog ctE5 (Lt.of []) 100 13 (symArgs 0 [feat, feat]) [] 0
def trFeHolds : TT OpR :=
(.ite (.not (.fn 76 (.i (.var 0) (.i (.var 1) (.i (.var 2) (.i (.var 3) (.i (.var 4) (.x (.var 5) (.i (.var 6) (.i (.var 7) (.x (.var 8) .nil)))))))))))
 (.ret ((.tup [(.one (.z (.bool (.lit false)))), (.one (.z (.int .i64 (.lit 1))))]), [], 2))
 (.ite (.not (.fn 76 (.i (.var 9) (.i (.var 10) (.i (.var 11) (.i (.var 12) (.i (.var 13) (.x (.var 14) (.i (.var 15) (.i (.var 16) (.x (.var 17) .nil)))))))))))
 (.ret ((.tup [(.one (.z (.bool (.lit false)))), (.one (.z (.int .i64 (.lit 1))))]), [], 2))
 (.ite (.cmp .eql (.var 1) (.lit 4))
 (.ite (.cmp .eql (.var 10) (.lit 4))
 (.ret ((.tup [(.one (.z (.bool (.lit true)))), (.one (.z (.int .i64 (.lit 0))))]), [], 6))
 (.ite (.cmp .eql (.var 10) (.lit 3))
 (.ite (.cmp .eql (.var 10) (.lit 3))
 (.ret ((.tup [(.one (.z (.bool (.lit false)))), (.one (.z (.int .i64 (.lit 0))))]), [], 6))
 (.ret ((.tup [(.one (.z (.bool (.lit false)))), (.one (.z (.int .i64 (.lit 0))))]), [], 6)))
 (.ite (.cmp .eql (.var 10) (.lit 6))
 (.ret ((.tup [(.one (.z (.bool (.lit false)))), (.one (.z (.int .i64 (.lit 0))))]), [], 6))
 (.ret ((.tup [(.one (.z (.bool (.lit false)))), (.one (.z (.int .i64 (.lit 0))))]), [], 6)))))
 (.ite (.cmp .eql (.var 1) (.lit 3))
 (.ite (.cmp .eql (.var 1) (.lit 3))
 (.ite (.cmp .eql (.var 10) (.lit 4))
 (.ret ((.tup [(.one (.z (.bool (.lit true)))), (.one (.z (.int .i64 (.lit 0))))]), [], 4))
 (.ite (.cmp .eql (.var 10) (.lit 3))
 (.ite (.cmp .eql (.var 10) (.lit 3))
 (.ite (.cmp .eql (.fn 112 (.x (.var 5) (.x (.var 14) .nil))) (.lit 0))
 (.ret ((.tup [(.one (.z (.bool (.fn 118 (.x (.var 5) (.x (.var 14) .nil)))))), (.one (.z (.int .i64 (.lit 0))))]), [], 4))
 (.ret ((.tup [(.one (.z (.bool (.lit false)))), (.one (.z (.int .i64 (.lit 0))))]), [], 4)))
 (.ite (.cmp .eql (.fn 114 (.x (.var 5) (.i (.var 11) (.i (.var 12) (.i (.var 13) .nil))))) (.lit 0))
 (.ret ((.tup [(.one (.z (.bool (.cmp .eql (.fn 113 (.x (.var 5) (.i (.var 11) (.i (.var 12) (.i (.var 13) .nil))))) (.lit 1))))), (.one (.z (.int .i64 (.lit 0))))]), [], 5))
 (.ret ((.tup [(.one (.z (.bool (.lit false)))), (.one (.z (.int .i64 (.lit 0))))]), [], 5))))
 (.ite (.cmp .eql (.var 10) (.lit 6))
 (.ite (.cmp .eql (.fn 112 (.x (.var 5) (.x (.var 14) .nil))) (.lit 0))
 (.ret ((.tup [(.one (.z (.bool (.fn 118 (.x (.var 5) (.x (.var 14) .nil)))))), (.one (.z (.int .i64 (.lit 0))))]), [], 4))
 (.ret ((.tup [(.one (.z (.bool (.lit false)))), (.one (.z (.int .i64 (.lit 0))))]), [], 4)))
 (.ite (.cmp .eql (.fn 114 (.x (.var 5) (.i (.var 11) (.i (.var 12) (.i (.var 13) .nil))))) (.lit 0))
 (.ret ((.tup [(.one (.z (.bool (.cmp .eql (.fn 113 (.x (.var 5) (.i (.var 11) (.i (.var 12) (.i (.var 13) .nil))))) (.lit 1))))), (.one (.z (.int .i64 (.lit 0))))]), [], 5))
 (.ret ((.tup [(.one (.z (.bool (.lit false)))), (.one (.z (.int .i64 (.lit 0))))]), [], 5))))))
 (.ite (.cmp .eql (.var 10) (.lit 4))
 (.ret ((.tup [(.one (.z (.bool (.lit true)))), (.one (.z (.int .i64 (.lit 0))))]), [], 5))
 (.ite (.cmp .eql (.var 10) (.lit 3))
 (.ite (.cmp .eql (.var 10) (.lit 3))
 (.loop 0 6000 ⟨[(0, (.lit 0))], [], []⟩
 (.ite (.cmp .lss (.var 6000) (.len (.var 14)))
 (.ob (.tru (.cmp .leq (.lit 0) (.var 6000)))
 (.ob (.tru (.cmp .lss (.var 6000) (.len (.var 14))))
 (.ite (.cmp .eql (.fn 13 (.i (.rd (.var 14) (.var 6000) 0) (.i (.rd (.var 14) (.var 6000) 1) (.i (.var 2) (.i (.var 3) (.i (.var 2) (.i (.var 3) (.i (.var 4) .nil)))))))) (.lit 0))
 (.ite (.not (.fn 7 (.i (.rd (.var 14) (.var 6000) 0) (.i (.rd (.var 14) (.var 6000) 1) (.i (.var 2) (.i (.var 3) (.i (.var 2) (.i (.var 3) (.i (.var 4) .nil)))))))))
 (.ret ((.tup [(.one (.z (.bool (.not (.cmp .geq (.var 6000) (.lit 0)))))), (.one (.z (.int .i64 (.lit 0))))]), [], 9))
 (.next 0 ⟨[(0, (.ar .add .i64 (.var 6000) (.lit 1)))], [], []⟩))
 (.ret ((.tup [(.one (.z (.bool (.not (.cmp .geq (.var 6000) (.lit 0)))))), (.one (.z (.int .i64 (.lit 0))))]), [], 9)))))
 (.ret ((.tup [(.one (.z (.bool (.lit true)))), (.one (.z (.int .i64 (.lit 0))))]), [], 9))))
 (.ite (.cmp .eql (.fn 111 (.i (.var 11) (.i (.var 12) (.i (.var 13) (.i (.var 2) (.i (.var 3) (.i (.var 4) .nil))))))) (.lit 0))
 (.ret ((.tup [(.one (.z (.bool (.fn 111 (.i (.var 11) (.i (.var 12) (.i (.var 13) (.i (.var 2) (.i (.var 3) (.i (.var 4) .nil)))))))))), (.one (.z (.int .i64 (.lit 0))))]), [], 6))
 (.ret ((.tup [(.one (.z (.bool (.lit false)))), (.one (.z (.int .i64 (.lit 0))))]), [], 6))))
 (.ite (.cmp .eql (.var 10) (.lit 6))
 (.loop 0 6000 ⟨[(0, (.lit 0))], [], []⟩
 (.ite (.cmp .lss (.var 6000) (.len (.var 14)))
 (.ob (.tru (.cmp .leq (.lit 0) (.var 6000)))
 (.ob (.tru (.cmp .lss (.var 6000) (.len (.var 14))))
 (.ite (.cmp .eql (.fn 13 (.i (.rd (.var 14) (.var 6000) 0) (.i (.rd (.var 14) (.var 6000) 1) (.i (.var 2) (.i (.var 3) (.i (.var 2) (.i (.var 3) (.i (.var 4) .nil)))))))) (.lit 0))
 (.ite (.not (.fn 7 (.i (.rd (.var 14) (.var 6000) 0) (.i (.rd (.var 14) (.var 6000) 1) (.i (.var 2) (.i (.var 3) (.i (.var 2) (.i (.var 3) (.i (.var 4) .nil)))))))))
 (.ret ((.tup [(.one (.z (.bool (.not (.cmp .geq (.var 6000) (.lit 0)))))), (.one (.z (.int .i64 (.lit 0))))]), [], 9))
 (.next 0 ⟨[(0, (.ar .add .i64 (.var 6000) (.lit 1)))], [], []⟩))
 (.ret ((.tup [(.one (.z (.bool (.not (.cmp .geq (.var 6000) (.lit 0)))))), (.one (.z (.int .i64 (.lit 0))))]), [], 9)))))
 (.ret ((.tup [(.one (.z (.bool (.lit true)))), (.one (.z (.int .i64 (.lit 0))))]), [], 9))))
 (.ite (.cmp .eql (.fn 111 (.i (.var 11) (.i (.var 12) (.i (.var 13) (.i (.var 2) (.i (.var 3) (.i (.var 4) .nil))))))) (.lit 0))
 (.ret ((.tup [(.one (.z (.bool (.fn 111 (.i (.var 11) (.i (.var 12) (.i (.var 13) (.i (.var 2) (.i (.var 3) (.i (.var 4) .nil)))))))))), (.one (.z (.int .i64 (.lit 0))))]), [], 6))
 (.ret ((.tup [(.one (.z (.bool (.lit false)))), (.one (.z (.int .i64 (.lit 0))))]), [], 6)))))))
 (.ite (.cmp .eql (.var 1) (.lit 6))
 (.ite (.cmp .eql (.var 10) (.lit 4))
 (.ret ((.tup [(.one (.z (.bool (.lit true)))), (.one (.z (.int .i64 (.lit 0))))]), [], 4))
 (.ite (.cmp .eql (.var 10) (.lit 3))
 (.ite (.cmp .eql (.var 10) (.lit 3))
 (.ite (.cmp .eql (.fn 112 (.x (.var 5) (.x (.var 14) .nil))) (.lit 0))
 (.ret ((.tup [(.one (.z (.bool (.fn 118 (.x (.var 5) (.x (.var 14) .nil)))))), (.one (.z (.int .i64 (.lit 0))))]), [], 4))
 (.ret ((.tup [(.one (.z (.bool (.lit false)))), (.one (.z (.int .i64 (.lit 0))))]), [], 4)))
 (.ite (.cmp .eql (.fn 114 (.x (.var 5) (.i (.var 11) (.i (.var 12) (.i (.var 13) .nil))))) (.lit 0))
 (.ret ((.tup [(.one (.z (.bool (.cmp .eql (.fn 113 (.x (.var 5) (.i (.var 11) (.i (.var 12) (.i (.var 13) .nil))))) (.lit 1))))), (.one (.z (.int .i64 (.lit 0))))]), [], 5))
 (.ret ((.tup [(.one (.z (.bool (.lit false)))), (.one (.z (.int .i64 (.lit 0))))]), [], 5))))
 (.ite (.cmp .eql (.var 10) (.lit 6))
 (.ite (.cmp .eql (.fn 112 (.x (.var 5) (.x (.var 14) .nil))) (.lit 0))
 (.ret ((.tup [(.one (.z (.bool (.fn 118 (.x (.var 5) (.x (.var 14) .nil)))))), (.one (.z (.int .i64 (.lit 0))))]), [], 4))
 (.ret ((.tup [(.one (.z (.bool (.lit false)))), (.one (.z (.int .i64 (.lit 0))))]), [], 4)))
 (.ite (.cmp .eql (.fn 114 (.x (.var 5) (.i (.var 11) (.i (.var 12) (.i (.var 13) .nil))))) (.lit 0))
 (.ret ((.tup [(.one (.z (.bool (.cmp .eql (.fn 113 (.x (.var 5) (.i (.var 11) (.i (.var 12) (.i (.var 13) .nil))))) (.lit 1))))), (.one (.z (.int .i64 (.lit 0))))]), [], 5))
 (.ret ((.tup [(.one (.z (.bool (.lit false)))), (.one (.z (.int .i64 (.lit 0))))]), [], 5))))))
 (.ite (.cmp .eql (.var 10) (.lit 4))
 (.ret ((.tup [(.one (.z (.bool (.lit true)))), (.one (.z (.int .i64 (.lit 0))))]), [], 5))
 (.ite (.cmp .eql (.var 10) (.lit 3))
 (.ite (.cmp .eql (.var 10) (.lit 3))
 (.loop 0 6000 ⟨[(0, (.lit 0))], [], []⟩
 (.ite (.cmp .lss (.var 6000) (.len (.var 14)))
 (.ob (.tru (.cmp .leq (.lit 0) (.var 6000)))
 (.ob (.tru (.cmp .lss (.var 6000) (.len (.var 14))))
 (.ite (.cmp .eql (.fn 13 (.i (.rd (.var 14) (.var 6000) 0) (.i (.rd (.var 14) (.var 6000) 1) (.i (.var 2) (.i (.var 3) (.i (.var 2) (.i (.var 3) (.i (.var 4) .nil)))))))) (.lit 0))
 (.ite (.not (.fn 7 (.i (.rd (.var 14) (.var 6000) 0) (.i (.rd (.var 14) (.var 6000) 1) (.i (.var 2) (.i (.var 3) (.i (.var 2) (.i (.var 3) (.i (.var 4) .nil)))))))))
 (.ret ((.tup [(.one (.z (.bool (.not (.cmp .geq (.var 6000) (.lit 0)))))), (.one (.z (.int .i64 (.lit 0))))]), [], 9))
 (.next 0 ⟨[(0, (.ar .add .i64 (.var 6000) (.lit 1)))], [], []⟩))
 (.ret ((.tup [(.one (.z (.bool (.not (.cmp .geq (.var 6000) (.lit 0)))))), (.one (.z (.int .i64 (.lit 0))))]), [], 9)))))
 (.ret ((.tup [(.one (.z (.bool (.lit true)))), (.one (.z (.int .i64 (.lit 0))))]), [], 9))))
 (.ite (.cmp .eql (.fn 111 (.i (.var 11) (.i (.var 12) (.i (.var 13) (.i (.var 2) (.i (.var 3) (.i (.var 4) .nil))))))) (.lit 0))
 (.ret ((.tup [(.one (.z (.bool (.fn 111 (.i (.var 11) (.i (.var 12) (.i (.var 13) (.i (.var 2) (.i (.var 3) (.i (.var 4) .nil)))))))))), (.one (.z (.int .i64 (.lit 0))))]), [], 6))
 (.ret ((.tup [(.one (.z (.bool (.lit false)))), (.one (.z (.int .i64 (.lit 0))))]), [], 6))))
 (.ite (.cmp .eql (.var 10) (.lit 6))
 (.loop 0 6000 ⟨[(0, (.lit 0))], [], []⟩
 (.ite (.cmp .lss (.var 6000) (.len (.var 14)))
 (.ob (.tru (.cmp .leq (.lit 0) (.var 6000)))
 (.ob (.tru (.cmp .lss (.var 6000) (.len (.var 14))))
 (.ite (.cmp .eql (.fn 13 (.i (.rd (.var 14) (.var 6000) 0) (.i (.rd (.var 14) (.var 6000) 1) (.i (.var 2) (.i (.var 3) (.i (.var 2) (.i (.var 3) (.i (.var 4) .nil)))))))) (.lit 0))
 (.ite (.not (.fn 7 (.i (.rd (.var 14) (.var 6000) 0) (.i (.rd (.var 14) (.var 6000) 1) (.i (.var 2) (.i (.var 3) (.i (.var 2) (.i (.var 3) (.i (.var 4) .nil)))))))))
 (.ret ((.tup [(.one (.z (.bool (.not (.cmp .geq (.var 6000) (.lit 0)))))), (.one (.z (.int .i64 (.lit 0))))]), [], 9))
 (.next 0 ⟨[(0, (.ar .add .i64 (.var 6000) (.lit 1)))], [], []⟩))
 (.ret ((.tup [(.one (.z (.bool (.not (.cmp .geq (.var 6000) (.lit 0)))))), (.one (.z (.int .i64 (.lit 0))))]), [], 9)))))
 (.ret ((.tup [(.one (.z (.bool (.lit true)))), (.one (.z (.int .i64 (.lit 0))))]), [], 9))))
 (.ite (.cmp .eql (.fn 111 (.i (.var 11) (.i (.var 12) (.i (.var 13) (.i (.var 2) (.i (.var 3) (.i (.var 4) .nil))))))) (.lit 0))
 (.ret ((.tup [(.one (.z (.bool (.fn 111 (.i (.var 11) (.i (.var 12) (.i (.var 13) (.i (.var 2) (.i (.var 3) (.i (.var 4) .nil)))))))))), (.one (.z (.int .i64 (.lit 0))))]), [], 6))
 (.ret ((.tup [(.one (.z (.bool (.lit false)))), (.one (.z (.int .i64 (.lit 0))))]), [], 6)))))))))))
-- end trFeHolds
def trFeHolds_h : List (Nat × St) := [
(5, ⟨([(.v (.one (.z (.ext [(.int .i64), (.int .i64)] (.var 14) false)))), (.v (.one (.z (.clo 119 [(4, 0)])))), (.v (.one (.z .any))), (.v (.one (.z .any))), (.v (.one (.z (.int .i64 (.lit 0))))), (.v (.one (.z .any))), (.v (.one (.z (.ext [(.int .i64), (.int .i64)] (.var 14) false)))), (.v (.one (.z (.int .i64 (.len (.var 14)))))), (.v (.one (.z (.int .i64 (.var 6000)))))] ++ List.replicate 10 V.any), [(4, (.cells 72 [(.z (.int .i64 (.var 2))), (.z (.int .i64 (.var 3))), (.z (.int .i64 (.var 4)))]))], 6, []⟩)]
def trFeHolds_j : List (FuncId × Nat × Nat × St) := [
]
set_option maxRecDepth 100000 in
theorem trFeHolds_is : T.norm 0 (call Tryz.prog ctE5 ⟨Lt.un (Lt.of []), trFeHolds_h, trFeHolds_j⟩ 100 13 (symArgs 0 [feat, feat]) [] 0) TT.ret = trFeHolds := by kernel_rfl
theorem trFeHolds_low : trFeHolds.low 1000 = true := by kernel_rfl
-- term trFeTouch: call Tryz.prog ctE5 (Lt.of []) 100 17 (symArgs 0 [feat, feat]) [] 0
def trFeTouch : TT OpR :=
(.ite (.not (.fn 76 (.i (.var 0) (.i (.var 1) (.i (.var 2) (.i (.var 3) (.i (.var 4) (.x (.var 5) (.i (.var 6) (.i (.var 7) (.x (.var 8) .nil)))))))))))
 (.ret ((.tup [(.one (.z (.bool (.lit false)))), (.one (.z (.int .i64 (.lit 1))))]), [], 2))
 (.ite (.not (.fn 76 (.i (.var 9) (.i (.var 10) (.i (.var 11) (.i (.var 12) (.i (.var 13) (.x (.var 14) (.i (.var 15) (.i (.var 16) (.x (.var 17) .nil)))))))))))
 (.ret ((.tup [(.one (.z (.bool (.lit false)))), (.one (.z (.int .i64 (.lit 1))))]), [], 2))
 (.ite (.cmp .eql (.var 1) (.lit 4))
 (.ite (.cmp .eql (.var 10) (.lit 4))
 (.ret ((.tup [(.one (.z (.bool (.lit false)))), (.one (.z (.int .i64 (.lit 0))))]), [], 5))
 (.ite (.cmp .eql (.var 10) (.lit 3))
 (.ite (.cmp .eql (.var 10) (.lit 3))
 (.ret ((.tup [(.one (.z (.bool (.lit false)))), (.one (.z (.int .i64 (.lit 0))))]), [], 5))
 (.ret ((.tup [(.one (.z (.bool (.lit false)))), (.one (.z (.int .i64 (.lit 0))))]), [], 5)))
 (.ite (.cmp .eql (.var 10) (.lit 6))
 (.ret ((.tup [(.one (.z (.bool (.lit false)))), (.one (.z (.int .i64 (.lit 0))))]), [], 5))
 (.ret ((.tup [(.one (.z (.bool (.lit false)))), (.one (.z (.int .i64 (.lit 0))))]), [], 5)))))
 (.ite (.cmp .eql (.var 1) (.lit 3))
 (.ite (.cmp .eql (.var 1) (.lit 3))
 (.ite (.cmp .eql (.var 10) (.lit 4))
 (.ret ((.tup [(.one (.z (.bool (.lit false)))), (.one (.z (.int .i64 (.lit 0))))]), [], 4))
 (.ite (.cmp .eql (.var 10) (.lit 3))
 (.ite (.cmp .eql (.var 10) (.lit 3))
 (.ite (.cmp .eql (.fn 112 (.x (.var 5) (.x (.var 14) .nil))) (.lit 0))
 (.ret ((.tup [(.one (.z (.bool (.fn 112 (.x (.var 5) (.x (.var 14) .nil)))))), (.one (.z (.int .i64 (.lit 0))))]), [], 4))
 (.ret ((.tup [(.one (.z (.bool (.lit false)))), (.one (.z (.int .i64 (.lit 0))))]), [], 4)))
 (.ite (.cmp .eql (.fn 114 (.x (.var 5) (.i (.var 11) (.i (.var 12) (.i (.var 13) .nil))))) (.lit 0))
 (.ret ((.tup [(.one (.z (.bool (.cmp .geq (.fn 113 (.x (.var 5) (.i (.var 11) (.i (.var 12) (.i (.var 13) .nil))))) (.lit 0))))), (.one (.z (.int .i64 (.lit 0))))]), [], 5))
 (.ret ((.tup [(.one (.z (.bool (.lit false)))), (.one (.z (.int .i64 (.lit 0))))]), [], 5))))
 (.ite (.cmp .eql (.var 10) (.lit 6))
 (.ite (.cmp .eql (.fn 112 (.x (.var 5) (.x (.var 14) .nil))) (.lit 0))
 (.ret ((.tup [(.one (.z (.bool (.fn 112 (.x (.var 5) (.x (.var 14) .nil)))))), (.one (.z (.int .i64 (.lit 0))))]), [], 4))
 (.ret ((.tup [(.one (.z (.bool (.lit false)))), (.one (.z (.int .i64 (.lit 0))))]), [], 4)))
 (.ite (.cmp .eql (.fn 114 (.x (.var 5) (.i (.var 11) (.i (.var 12) (.i (.var 13) .nil))))) (.lit 0))
 (.ret ((.tup [(.one (.z (.bool (.cmp .geq (.fn 113 (.x (.var 5) (.i (.var 11) (.i (.var 12) (.i (.var 13) .nil))))) (.lit 0))))), (.one (.z (.int .i64 (.lit 0))))]), [], 5))
 (.ret ((.tup [(.one (.z (.bool (.lit false)))), (.one (.z (.int .i64 (.lit 0))))]), [], 5))))))
 (.ite (.cmp .eql (.var 10) (.lit 4))
 (.ret ((.tup [(.one (.z (.bool (.lit false)))), (.one (.z (.int .i64 (.lit 0))))]), [], 5))
 (.ite (.cmp .eql (.var 10) (.lit 3))
 (.ite (.cmp .eql (.var 10) (.lit 3))
 (.ite (.cmp .eql (.fn 114 (.x (.var 14) (.i (.var 2) (.i (.var 3) (.i (.var 4) .nil))))) (.lit 0))
 (.ret ((.tup [(.one (.z (.bool (.cmp .geq (.fn 113 (.x (.var 14) (.i (.var 2) (.i (.var 3) (.i (.var 4) .nil))))) (.lit 0))))), (.one (.z (.int .i64 (.lit 0))))]), [], 6))
 (.ret ((.tup [(.one (.z (.bool (.lit false)))), (.one (.z (.int .i64 (.lit 0))))]), [], 6)))
 (.ite (.cmp .eql (.fn 13 (.i (.var 11) (.i (.var 12) (.i (.var 2) (.i (.var 3) (.i (.var 2) (.i (.var 3) (.i (.ar .add .i64 (.var 13) (.var 4)) .nil)))))))) (.lit 0))
 (.ret ((.tup [(.one (.z (.bool (.fn 7 (.i (.var 11) (.i (.var 12) (.i (.var 2) (.i (.var 3) (.i (.var 2) (.i (.var 3) (.i (.ar .add .i64 (.var 13) (.var 4)) .nil))))))))))), (.one (.z (.int .i64 (.lit 0))))]), [], 6))
 (.ret ((.tup [(.one (.z (.bool (.lit false)))), (.one (.z (.int .i64 (.lit 0))))]), [], 6))))
 (.ite (.cmp .eql (.var 10) (.lit 6))
 (.ite (.cmp .eql (.fn 114 (.x (.var 14) (.i (.var 2) (.i (.var 3) (.i (.var 4) .nil))))) (.lit 0))
 (.ret ((.tup [(.one (.z (.bool (.cmp .geq (.fn 113 (.x (.var 14) (.i (.var 2) (.i (.var 3) (.i (.var 4) .nil))))) (.lit 0))))), (.one (.z (.int .i64 (.lit 0))))]), [], 6))
 (.ret ((.tup [(.one (.z (.bool (.lit false)))), (.one (.z (.int .i64 (.lit 0))))]), [], 6)))
 (.ite (.cmp .eql (.fn 13 (.i (.var 11) (.i (.var 12) (.i (.var 2) (.i (.var 3) (.i (.var 2) (.i (.var 3) (.i (.ar .add .i64 (.var 13) (.var 4)) .nil)))))))) (.lit 0))
 (.ret ((.tup [(.one (.z (.bool (.fn 7 (.i (.var 11) (.i (.var 12) (.i (.var 2) (.i (.var 3) (.i (.var 2) (.i (.var 3) (.i (.ar .add .i64 (.var 13) (.var 4)) .nil))))))))))), (.one (.z (.int .i64 (.lit 0))))]), [], 6))
 (.ret ((.tup [(.one (.z (.bool (.lit false)))), (.one (.z (.int .i64 (.lit 0))))]), [], 6)))))))
 (.ite (.cmp .eql (.var 1) (.lit 6))
 (.ite (.cmp .eql (.var 10) (.lit 4))
 (.ret ((.tup [(.one (.z (.bool (.lit false)))), (.one (.z (.int .i64 (.lit 0))))]), [], 4))
 (.ite (.cmp .eql (.var 10) (.lit 3))
 (.ite (.cmp .eql (.var 10) (.lit 3))
 (.ite (.cmp .eql (.fn 112 (.x (.var 5) (.x (.var 14) .nil))) (.lit 0))
 (.ret ((.tup [(.one (.z (.bool (.fn 112 (.x (.var 5) (.x (.var 14) .nil)))))), (.one (.z (.int .i64 (.lit 0))))]), [], 4))
 (.ret ((.tup [(.one (.z (.bool (.lit false)))), (.one (.z (.int .i64 (.lit 0))))]), [], 4)))
 (.ite (.cmp .eql (.fn 114 (.x (.var 5) (.i (.var 11) (.i (.var 12) (.i (.var 13) .nil))))) (.lit 0))
 (.ret ((.tup [(.one (.z (.bool (.cmp .geq (.fn 113 (.x (.var 5) (.i (.var 11) (.i (.var 12) (.i (.var 13) .nil))))) (.lit 0))))), (.one (.z (.int .i64 (.lit 0))))]), [], 5))
 (.ret ((.tup [(.one (.z (.bool (.lit false)))), (.one (.z (.int .i64 (.lit 0))))]), [], 5))))
 (.ite (.cmp .eql (.var 10) (.lit 6))
 (.ite (.cmp .eql (.fn 112 (.x (.var 5) (.x (.var 14) .nil))) (.lit 0))
 (.ret ((.tup [(.one (.z (.bool (.fn 112 (.x (.var 5) (.x (.var 14) .nil)))))), (.one (.z (.int .i64 (.lit 0))))]), [], 4))
 (.ret ((.tup [(.one (.z (.bool (.lit false)))), (.one (.z (.int .i64 (.lit 0))))]), [], 4)))
 (.ite (.cmp .eql (.fn 114 (.x (.var 5) (.i (.var 11) (.i (.var 12) (.i (.var 13) .nil))))) (.lit 0))
 (.ret ((.tup [(.one (.z (.bool (.cmp .geq (.fn 113 (.x (.var 5) (.i (.var 11) (.i (.var 12) (.i (.var 13) .nil))))) (.lit 0))))), (.one (.z (.int .i64 (.lit 0))))]), [], 5))
 (.ret ((.tup [(.one (.z (.bool (.lit false)))), (.one (.z (.int .i64 (.lit 0))))]), [], 5))))))
 (.ite (.cmp .eql (.var 10) (.lit 4))
 (.ret ((.tup [(.one (.z (.bool (.lit false)))), (.one (.z (.int .i64 (.lit 0))))]), [], 5))
 (.ite (.cmp .eql (.var 10) (.lit 3))
 (.ite (.cmp .eql (.var 10) (.lit 3))
 (.ite (.cmp .eql (.fn 114 (.x (.var 14) (.i (.var 2) (.i (.var 3) (.i (.var 4) .nil))))) (.lit 0))
 (.ret ((.tup [(.one (.z (.bool (.cmp .geq (.fn 113 (.x (.var 14) (.i (.var 2) (.i (.var 3) (.i (.var 4) .nil))))) (.lit 0))))), (.one (.z (.int .i64 (.lit 0))))]), [], 6))
 (.ret ((.tup [(.one (.z (.bool (.lit false)))), (.one (.z (.int .i64 (.lit 0))))]), [], 6)))
 (.ite (.cmp .eql (.fn 13 (.i (.var 11) (.i (.var 12) (.i (.var 2) (.i (.var 3) (.i (.var 2) (.i (.var 3) (.i (.ar .add .i64 (.var 13) (.var 4)) .nil)))))))) (.lit 0))
 (.ret ((.tup [(.one (.z (.bool (.fn 7 (.i (.var 11) (.i (.var 12) (.i (.var 2) (.i (.var 3) (.i (.var 2) (.i (.var 3) (.i (.ar .add .i64 (.var 13) (.var 4)) .nil))))))))))), (.one (.z (.int .i64 (.lit 0))))]), [], 6))
 (.ret ((.tup [(.one (.z (.bool (.lit false)))), (.one (.z (.int .i64 (.lit 0))))]), [], 6))))
 (.ite (.cmp .eql (.var 10) (.lit 6))
 (.ite (.cmp .eql (.fn 114 (.x (.var 14) (.i (.var 2) (.i (.var 3) (.i (.var 4) .nil))))) (.lit 0))
 (.ret ((.tup [(.one (.z (.bool (.cmp .geq (.fn 113 (.x (.var 14) (.i (.var 2) (.i (.var 3) (.i (.var 4) .nil))))) (.lit 0))))), (.one (.z (.int .i64 (.lit 0))))]), [], 6))
 (.ret ((.tup [(.one (.z (.bool (.lit false)))), (.one (.z (.int .i64 (.lit 0))))]), [], 6)))
 (.ite (.cmp .eql (.fn 13 (.i (.var 11) (.i (.var 12) (.i (.var 2) (.i (.var 3) (.i (.var 2) (.i (.var 3) (.i (.ar .add .i64 (.var 13) (.var 4)) .nil)))))))) (.lit 0))
 (.ret ((.tup [(.one (.z (.bool (.fn 7 (.i (.var 11) (.i (.var 12) (.i (.var 2) (.i (.var 3) (.i (.var 2) (.i (.var 3) (.i (.ar .add .i64 (.var 13) (.var 4)) .nil))))))))))), (.one (.z (.int .i64 (.lit 0))))]), [], 6))
 (.ret ((.tup [(.one (.z (.bool (.lit false)))), (.one (.z (.int .i64 (.lit 0))))]), [], 6)))))))))))
-- end trFeTouch
set_option maxRecDepth 100000 in
theorem trFeTouch_is : T.norm 0 (call Tryz.prog ctE5 (Lt.of []) 100 17 (symArgs 0 [feat, feat]) [] 0) TT.ret = trFeTouch := by kernel_rfl
theorem trFeTouch_low : trFeTouch.low 1000 = true := by kernel_rfl
end Go.Proofs.YtglepdhapakmbaaGreat
/- Chapter 07: feature.Holds, feature.Touch. -/
namespace Go.Proofs.YtglepdhapakmbaaGreat
open Go.RowKit
def allD (a : Rows) (x y r : Int) : Nat → Nat → Bool
  | 0, _ => true
  | f + 1, i => nearB (lg a i 0) (lg a i 1) x y x y r && allD a x y r f (i + 1)
def holdX (k1 x1 y1 r1 : Int) (a1 : Rows) (k2 x2 y2 r2 : Int) (a2 : Rows) : Bool :=
  if k1 = 4 then decide (k2 = 4)
  else if k1 = 3 ∨ k1 = 6 then (if k2 = 4 then true else if k2 = 3 ∨ k2 = 6 then hoX a1 a2 else decide (disX a1 x2 y2 r2 = 1))
  else (if k2 = 4 then true else if k2 = 3 ∨ k2 = 6 then allD a2 x1 y1 r1 a2.length 0 else liesB x2 y2 r2 x1 y1 r1)
def touchX (k1 x1 y1 r1 : Int) (a1 : Rows) (k2 x2 y2 r2 : Int) (a2 : Rows) : Bool :=
  if k1 = 4 ∨ k2 = 4 then false
  else if k1 = 3 ∨ k1 = 6 then (if k2 = 3 ∨ k2 = 6 then touX a1 a2 else decide (0 ≤ disX a1 x2 y2 r2))
  else (if k2 = 3 ∨ k2 = 6 then decide (0 ≤ disX a2 x1 y1 r1) else nearB x2 y2 x1 y1 x1 y1 (r2 + r1))
def two9 (ds : List D) : Bool := featB (iAt ds 0) (iAt ds 1) (iAt ds 2) (iAt ds 3) (iAt ds 4) (rAt ds 5) (iAt ds 6) (iAt ds 7) (rAt ds 8) && featB (iAt ds 9) (iAt ds 10) (iAt ds 11) (iAt ds 12) (iAt ds 13) (rAt ds 14) (iAt ds 15) (iAt ds 16) (rAt ds 17)
def feE (ds : List D) : Int := if two9 ds then 0 else 1
def feHoR (ds : List D) : Bool := two9 ds && holdX (iAt ds 1) (iAt ds 2) (iAt ds 3) (iAt ds 4) (rAt ds 5) (iAt ds 10) (iAt ds 11) (iAt ds 12) (iAt ds 13) (rAt ds 14)
def feToR (ds : List D) : Bool := two9 ds && touchX (iAt ds 1) (iAt ds 2) (iAt ds 3) (iAt ds 4) (rAt ds 5) (iAt ds 10) (iAt ds 11) (iAt ds 12) (iAt ds 13) (rAt ds 14)
theorem K75b76 (W : World) (ds l : List D) : (envOf K75 W ds).fb 76 l = featL l := by simp only [envOf, K75, K74, K73, K72, K71, KI, KH, KG, KF, KE, KD, KC, KB, KA, K9, K8, K7, K6, K5, K]
theorem K75b118 (W : World) (ds l : List D) : (envOf K75 W ds).fb 118 l = hoR l := by simp only [envOf, K75, K74, K73, K72, K71, KI, KH, KG, KF, KE, KD, KC, KB, KA, K9, K8, K7, K6, K5, K]
theorem K75b112 (W : World) (ds l : List D) : (envOf K75 W ds).fb 112 l = touR l := by simp only [envOf, K75, K74, K73, K72, K71, KI, KH, KG, KF, KE, KD, KC, KB, KA, K9, K8, K7, K6, K5, K]
theorem K75i112 (W : World) (ds l : List D) : (envOf K75 W ds).fi 112 l = touE l := by simp only [envOf, K75, K74, K73, K72, K71, KI, KH, KG, KF, KE, KD, KC, KB, KA, K9, K8, K7, K6, K5, K]
theorem K75i113 (W : World) (ds l : List D) : (envOf K75 W ds).fi 113 l = disR l := by simp only [envOf, K75, K74, K73, K72, K71, KI, KH, KG, KF, KE, KD, KC, KB, KA, K9, K8, K7, K6, K5, K]
theorem K75i114 (W : World) (ds l : List D) : (envOf K75 W ds).fi 114 l = disE l := by simp only [envOf, K75, K74, K73, K72, K71, KI, KH, KG, KF, KE, KD, KC, KB, KA, K9, K8, K7, K6, K5, K]
theorem K75b7 (W : World) (ds l : List D) : (envOf K75 W ds).fb 7 l = nearR l := by simp only [envOf, K75, K74, K73, K72, K71, KI, KH, KG, KF, KE, KD, KC, KB, KA, K9, K8, K7, K6, K5, K]
theorem K75i13 (W : World) (ds l : List D) : (envOf K75 W ds).fi 13 l = nearE l := by simp only [envOf, K75, K74, K73, K72, K71, KI, KH, KG, KF, KE, KD, KC, KB, KA, K9, K8, K7, K6, K5, K]
theorem K75b111 (W : World) (ds l : List D) : (envOf K75 W ds).fb 111 l = lieR l := by simp only [envOf, K75, K74, K73, K72, K71, KI, KH, KG, KF, KE, KD, KC, KB, KA, K9, K8, K7, K6, K5, K]
theorem K75i111 (W : World) (ds l : List D) : (envOf K75 W ds).fi 111 l = lieE l := by simp only [envOf, K75, K74, K73, K72, K71, KI, KH, KG, KF, KE, KD, KC, KB, KA, K9, K8, K7, K6, K5, K]
section
variable {id1 k1 x1 y1 r1 d1 s1 id2 k2 x2 y2 r2 d2 s2 : Int} {a1 t1 a2 t2 : Rows}
theorem feat_area (h : featB id1 k1 x1 y1 r1 a1 d1 s1 t1 = true) (hk : k1 = 3 ∨ k1 = 6) : polyB a1 = true := by
  have := (featB_iff.mp h).2.2.2.2
  rcases this with q | q | q
  · omega
  · exact q.2.1
  · omega
theorem feat_disc (h : featB id1 k1 x1 y1 r1 a1 d1 s1 t1 = true) (h3 : k1 ≠ 3) (h6 : k1 ≠ 6) : placeB x1 y1 = true ∧ 0 ≤ r1 ∧ r1 ≤ 100000 := by
  obtain ⟨_, _, _, hr, this⟩ := featB_iff.mp h
  rcases this with q | q | q
  · exact ⟨q.2.1, hr⟩
  · omega
  · exact ⟨q.2.1, hr⟩
theorem ho_two (h1 : polyB a1 = true) (h2 : polyB a2 = true) : hoR [.l a1, .l a2] = hoX a1 a2 ∧ touR [.l a1, .l a2] = touX a1 a2 ∧ touE [.l a1, .l a2] = 0 := by
  have : touO [.l a1, .l a2] = true := by show (polyB a1 && polyB a2) = true; rw [h1, h2]; rfl
  unfold hoR touR touE
  rw [this]
  exact ⟨rfl, rfl, rfl⟩
theorem dis_two (h1 : polyB a1 = true) (h2 : placeB x2 y2 = true) (hr : 0 ≤ r2 ∧ r2 ≤ 3000000) : disR [.l a1, .i x2, .i y2, .i r2] = disX a1 x2 y2 r2 ∧ disE [.l a1, .i x2, .i y2, .i r2] = 0 := by
  have : disO [.l a1, .i x2, .i y2, .i r2] = true := by
    show (polyB a1 && placeB x2 y2 && distB r2) = true
    rw [h1, h2, distB, decide_eq_true hr]; rfl
  unfold disR disE
  rw [this]
  exact ⟨rfl, rfl⟩
theorem lie_two (h1 : placeB x1 y1 = true) (h2 : placeB x2 y2 = true) (hr : 0 ≤ r1 ∧ r1 ≤ 3000000) (hr' : 0 ≤ r2 ∧ r2 ≤ 3000000) : lieR [.i x2, .i y2, .i r2, .i x1, .i y1, .i r1] = liesB x2 y2 r2 x1 y1 r1 ∧ lieE [.i x2, .i y2, .i r2, .i x1, .i y1, .i r1] = 0 := by
  have : lieO [.i x2, .i y2, .i r2, .i x1, .i y1, .i r1] = true := by
    show (placeB x2 y2 && placeB x1 y1 && distB r2 && distB r1) = true
    rw [h1, h2, distB, distB, decide_eq_true hr, decide_eq_true hr']; rfl
  unfold lieR lieE
  rw [this]
  exact ⟨rfl, rfl⟩
theorem near_two (h1 : placeB x1 y1 = true) (h2 : placeB x2 y2 = true) {r : Int} (hr : 0 ≤ r ∧ r ≤ 3000000) : nearR [.i x2, .i y2, .i x1, .i y1, .i x1, .i y1, .i r] = nearB x2 y2 x1 y1 x1 y1 r ∧ nearE [.i x2, .i y2, .i x1, .i y1, .i x1, .i y1, .i r] = 0 :=
  ⟨(nearR_eq h2 h1 h1 hr).1, (nearR_eq h2 h1 h1 hr).2⟩
end
end Go.Proofs.YtglepdhapakmbaaGreat
/- Chapter 07: contracts of feature.Holds and feature.Touch. -/
namespace Go.Proofs.YtglepdhapakmbaaGreat
open Go.RowKit
set_option maxHeartbeats 4000000 in
theorem gFeHolds : Gives Tryz.prog 13 [feat, feat] (fun ds => .tuple #[.bool (feHoR ds), .int .i64 (feE ds)]) := by
  refine GivesIf.all (fn_gives K75 (by kernel_rfl) (fun ρ h => ctE5_ok (Sees.of h 119)) (by kernel_rfl) trFeHolds_is trFeHolds_low (by decide) (fun W vals ds hr _ => ?_))
  simp only [trFeHolds, TT.sat_ret, TT.sat_ite, TT.sat_ob, TT.sat_next, TT.sat_stuck, put_i, put_b, put_d, put_fi, put_fb, put_fd, Ob.ok, B.ev, E.ev, X.ev, AL.ev, cmp_t, cmp_f, arEv, V.plain, V2.plain, S.plain, S0.plain, V.val, V2.val, S.val, S0.val, bV, iV, List.all_cons, List.all_nil, Bool.and_true, Bool.and_self, envOf_i, envOf_b, envOf_d, List.map_cons, List.map_nil, true_and, Bool.not_eq_true', Bool.not_eq_false', Bool.not_not, Bool.and_eq_true, and_f, cell_lg, cell_lb, cell_lr, cmpP, val_i, val_b, val_d, aget, Nat.reduceBEq, beq_self_eq_true, Bool.false_eq_true, if_true, if_false, Nat.reduceLT, Nat.reduceSub, Nat.sub_self, Nat.lt_irrefl, K75b76, K75b118, K75i112, K75i113, K75i114, K75i13, K75b7, K75b111, K75i111, feat_nine]
  have F : two9 ds = false → Value.tuple #[.bool false, .int .i64 1] = Value.tuple #[.bool (feHoR ds), .int .i64 (feE ds)] := fun h => by simp [feHoR, feE, h]
  have T : ∀ b, two9 ds = true → holdX (iAt ds 1) (iAt ds 2) (iAt ds 3) (iAt ds 4) (rAt ds 5) (iAt ds 10) (iAt ds 11) (iAt ds 12) (iAt ds 13) (rAt ds 14) = b → Value.tuple #[.bool b, .int .i64 0] = Value.tuple #[.bool (feHoR ds), .int .i64 (feE ds)] := fun b h h' => by simp [feHoR, feE, h, h']
  refine ⟨fun h => F (by simp only [two9, h, Bool.false_and]), fun f1 => ⟨fun h => F (by simp only [two9, h, Bool.and_false]), fun f2 => ?_⟩⟩
  have hO : two9 ds = true := by simp only [two9, f1, f2, Bool.and_self]
  replace T := fun b => T b hO
  clear F hr hO
  generalize iAt ds 1 = k1 at *
  generalize ex1 : iAt ds 2 = x1 at *
  generalize ey1 : iAt ds 3 = y1 at *
  generalize er1 : iAt ds 4 = r1 at *
  generalize rAt ds 5 = a1 at *
  generalize iAt ds 10 = k2 at *
  generalize iAt ds 11 = x2 at *
  generalize iAt ds 12 = y2 at *
  generalize iAt ds 13 = r2 at *
  generalize ea2 : rAt ds 14 = a2 at *
  have A1 := feat_area f1
  have A2 := feat_area f2
  have D1 := feat_disc f1
  have D2 := feat_disc f2
  have H44 : k1 = 4 → holdX k1 x1 y1 r1 a1 k2 x2 y2 r2 a2 = decide (k2 = 4) := fun h => by unfold holdX; rw [if_pos h]
  have Hn4 : k1 ≠ 4 → k2 = 4 → holdX k1 x1 y1 r1 a1 k2 x2 y2 r2 a2 = true := fun h h' => by unfold holdX; simp only [if_neg h, if_pos h', ite_self]
  have HAA : (k1 = 3 ∨ k1 = 6) → (k2 = 3 ∨ k2 = 6) → holdX k1 x1 y1 r1 a1 k2 x2 y2 r2 a2 = hoX a1 a2 := fun h h' => by unfold holdX; rw [if_neg (by omega), if_pos h, if_neg (by omega), if_pos h']
  have HAD : (k1 = 3 ∨ k1 = 6) → k2 ≠ 3 → k2 ≠ 6 → k2 ≠ 4 → holdX k1 x1 y1 r1 a1 k2 x2 y2 r2 a2 = decide (disX a1 x2 y2 r2 = 1) := fun h h1 h2 h3 => by unfold holdX; rw [if_neg (by omega), if_pos h, if_neg h3, if_neg (by omega)]
  have HDA : k1 ≠ 3 → k1 ≠ 6 → k1 ≠ 4 → (k2 = 3 ∨ k2 = 6) → holdX k1 x1 y1 r1 a1 k2 x2 y2 r2 a2 = allD a2 x1 y1 r1 a2.length 0 := fun h1 h2 h3 h => by unfold holdX; rw [if_neg h3, if_neg (by omega), if_neg (by omega), if_pos h]
  have HDD : k1 ≠ 3 → k1 ≠ 6 → k1 ≠ 4 → k2 ≠ 3 → k2 ≠ 6 → k2 ≠ 4 → holdX k1 x1 y1 r1 a1 k2 x2 y2 r2 a2 = liesB x2 y2 r2 x1 y1 r1 := fun h1 h2 h3 h4 h5 h6 => by unfold holdX; rw [if_neg h3, if_neg (by omega), if_neg h6, if_neg (by omega)]
  have EAA : (k1 = 3 ∨ k1 = 6) → (k2 = 3 ∨ k2 = 6) → hoR [.l a1, .l a2] = hoX a1 a2 ∧ touE [.l a1, .l a2] = 0 := fun h h' => ⟨(ho_two (A1 h) (A2 h')).1, (ho_two (A1 h) (A2 h')).2.2⟩
  have EAD : (k1 = 3 ∨ k1 = 6) → k2 ≠ 3 → k2 ≠ 6 → disR [.l a1, .i x2, .i y2, .i r2] = disX a1 x2 y2 r2 ∧ disE [.l a1, .i x2, .i y2, .i r2] = 0 := fun h h1 h2 => dis_two (A1 h) (D2 h1 h2).1 (by have := (D2 h1 h2).2; omega)
  have EDD : k1 ≠ 3 → k1 ≠ 6 → k2 ≠ 3 → k2 ≠ 6 → lieR [.i x2, .i y2, .i r2, .i x1, .i y1, .i r1] = liesB x2 y2 r2 x1 y1 r1 ∧ lieE [.i x2, .i y2, .i r2, .i x1, .i y1, .i r1] = 0 := fun h1 h2 h3 h4 => lie_two (D1 h1 h2).1 (D2 h3 h4).1 (by have := (D1 h1 h2).2; omega) (by have := (D2 h3 h4).2; omega)
  have EDA : k1 ≠ 3 → k1 ≠ 6 → (k2 = 3 ∨ k2 = 6) → ∀ i, i < a2.length → nearR [.i (lg a2 i 0), .i (lg a2 i 1), .i x1, .i y1, .i x1, .i y1, .i r1] = nearB (lg a2 i 0) (lg a2 i 1) x1 y1 x1 y1 r1 ∧ nearE [.i (lg a2 i 0), .i (lg a2 i 1), .i x1, .i y1, .i x1, .i y1, .i r1] = 0 :=
    fun h1 h2 h i hi => near_two (D1 h1 h2).1 (polyB_pl (A2 h) hi) (by have := (D1 h1 h2).2; omega)
  have LA : (k2 = 3 ∨ k2 = 6) → 3 ≤ a2.length ∧ a2.length ≤ 24 := fun h => polyB_len (A2 h)
  clear A1 A2 D1 D2 f1 f2
  repeat' (first | (intro h; skip) | (refine And.intro ?_ ?_))
  all_goals first
    | omega
    | (refine T _ ?_; rw [H44 (by omega), decide_eq_true (by omega)])
    | (refine T _ ?_; rw [H44 (by omega), decide_eq_false (by omega)])
    | (refine T _ ?_; exact Hn4 (by omega) (by omega))
    | (rw [(EAA (by omega) (by omega)).1]; exact T _ (HAA (by omega) (by omega)))
    | (exact absurd (EAA (by omega) (by omega)).2 (by assumption))
    | (rw [(EAD (by omega) (by omega) (by omega)).1]; exact T _ (HAD (by omega) (by omega) (by omega) (by omega)))
    | (exact absurd (EAD (by omega) (by omega) (by omega)).2 (by assumption))
    | (rw [(EDD (by omega) (by omega) (by omega) (by omega)).1]; exact T _ (HDD (by omega) (by omega) (by omega) (by omega) (by omega) (by omega)))
    | (exact absurd (EDD (by omega) (by omega) (by omega) (by omega)).2 (by assumption))
    | (refine TT.sat_loop (fun v => ∃ i : Nat, v.i 0 = i ∧ i ≤ a2.length ∧ allD a2 x1 y1 r1 (a2.length - i) i = allD a2 x1 y1 r1 a2.length 0) (fun v => a2.length - (v.i 0).toNat) ⟨0, by simp [val_i, aget, E.ev], by omega, rfl⟩ (fun v hv => ?_)
       obtain ⟨i, i0, i1, i2⟩ := hv
       simp only [TT.sat_ret, TT.sat_ite, TT.sat_ob, TT.sat_next, TT.sat_stuck, put_i, put_b, put_d, put_fi, put_fb, put_fd, Ob.ok, B.ev, E.ev, X.ev, AL.ev, cmp_t, cmp_f, arEv, V.plain, V2.plain, S.plain, S0.plain, V.val, V2.val, S.val, S0.val, bV, iV, List.all_cons, List.all_nil, Bool.and_true, Bool.and_self, envOf_i, envOf_b, envOf_d, List.map_cons, List.map_nil, true_and, Bool.not_eq_true', Bool.not_eq_false', Bool.not_not, Bool.and_eq_true, and_f, cell_lg, cell_lb, cell_lr, cmpP, val_i, val_b, val_d, aget, Nat.reduceBEq, beq_self_eq_true, Bool.false_eq_true, if_true, if_false, Nat.reduceLT, Nat.reduceSub, Nat.sub_self, Nat.lt_irrefl, i0, ex1, ey1, er1, ea2, K75i13, K75b7]
       have hl := LA (by omega)
       refine ⟨fun hc => ?_, fun hc => ?_⟩
       · have hi : i < a2.length := by omega
         obtain ⟨f, hf⟩ : ∃ f, a2.length - i = f + 1 := ⟨a2.length - i - 1, by omega⟩
         have hf' : a2.length - (i + 1) = f := by omega
         rw [hf, allD] at i2
         obtain ⟨g1, g2⟩ := EDA (by omega) (by omega) (by omega) i hi
         rw [g1, g2, wrap_in ((i : Int) + 1) (by omega) (by omega)]
         refine ⟨by omega, by omega, fun _ => ⟨fun b => ?_, fun b => ⟨⟨i + 1, rfl, by omega, by rw [hf', ← i2, b]; rfl⟩, by omega⟩⟩, fun c => absurd rfl c⟩
         have hz : (!cmpEv BinOp.geq (i : Int) 0) = false := by
           have h : cmpEv BinOp.geq (i : Int) 0 = true := by
             rw [cmp_t]
             simp only [cmpP]
             omega
           rw [h]; rfl
         rw [hz]
         exact T _ (by rw [HDA (by omega) (by omega) (by omega) (by omega), ← i2, b]; rfl)
       · have h0 : a2.length - i = 0 := by omega
         rw [h0, allD] at i2
         exact T _ (by rw [HDA (by omega) (by omega) (by omega) (by omega), ← i2]))
set_option maxHeartbeats 4000000 in
theorem gFeTouch : Gives Tryz.prog 17 [feat, feat] (fun ds => .tuple #[.bool (feToR ds), .int .i64 (feE ds)]) := by
  refine GivesIf.all (fn_gives K75 (by kernel_rfl) (fun ρ h => ctE5_ok (Sees.of h 119)) (by kernel_rfl) trFeTouch_is trFeTouch_low (by decide) (fun W vals ds hr _ => ?_))
  simp only [trFeTouch, TT.sat_ret, TT.sat_ite, TT.sat_ob, TT.sat_next, TT.sat_stuck, put_i, put_b, put_d, put_fi, put_fb, put_fd, Ob.ok, B.ev, E.ev, X.ev, AL.ev, cmp_t, cmp_f, arEv, V.plain, V2.plain, S.plain, S0.plain, V.val, V2.val, S.val, S0.val, bV, iV, List.all_cons, List.all_nil, Bool.and_true, Bool.and_self, envOf_i, envOf_b, envOf_d, List.map_cons, List.map_nil, true_and, Bool.not_eq_true', Bool.not_eq_false', Bool.not_not, Bool.and_eq_true, and_f, cell_lg, cell_lb, cell_lr, cmpP, val_i, val_b, val_d, aget, Nat.reduceBEq, beq_self_eq_true, Bool.false_eq_true, if_true, if_false, Nat.reduceLT, Nat.reduceSub, Nat.sub_self, Nat.lt_irrefl, K75b76, K75b112, K75i112, K75i113, K75i114, K75i13, K75b7, feat_nine]
  have F : two9 ds = false → Value.tuple #[.bool false, .int .i64 1] = Value.tuple #[.bool (feToR ds), .int .i64 (feE ds)] := fun h => by simp [feToR, feE, h]
  have T : ∀ b, two9 ds = true → touchX (iAt ds 1) (iAt ds 2) (iAt ds 3) (iAt ds 4) (rAt ds 5) (iAt ds 10) (iAt ds 11) (iAt ds 12) (iAt ds 13) (rAt ds 14) = b → Value.tuple #[.bool b, .int .i64 0] = Value.tuple #[.bool (feToR ds), .int .i64 (feE ds)] := fun b h h' => by simp [feToR, feE, h, h']
  refine ⟨fun h => F (by simp only [two9, h, Bool.false_and]), fun f1 => ⟨fun h => F (by simp only [two9, h, Bool.and_false]), fun f2 => ?_⟩⟩
  have hO : two9 ds = true := by simp only [two9, f1, f2, Bool.and_self]
  replace T := fun b => T b hO
  clear F hr hO
  generalize iAt ds 1 = k1 at *
  generalize iAt ds 2 = x1 at *
  generalize iAt ds 3 = y1 at *
  generalize iAt ds 4 = r1 at *
  generalize rAt ds 5 = a1 at *
  generalize iAt ds 10 = k2 at *
  generalize iAt ds 11 = x2 at *
  generalize iAt ds 12 = y2 at *
  generalize iAt ds 13 = r2 at *
  generalize rAt ds 14 = a2 at *
  have A1 := feat_area f1
  have A2 := feat_area f2
  have D1 := feat_disc f1
  have D2 := feat_disc f2
  have H4 : (k1 = 4 ∨ k2 = 4) → touchX k1 x1 y1 r1 a1 k2 x2 y2 r2 a2 = false := fun h => by unfold touchX; rw [if_pos h]
  have HAA : (k1 = 3 ∨ k1 = 6) → (k2 = 3 ∨ k2 = 6) → touchX k1 x1 y1 r1 a1 k2 x2 y2 r2 a2 = touX a1 a2 := fun h h' => by unfold touchX; rw [if_neg (by omega), if_pos h, if_pos h']
  have HAD : (k1 = 3 ∨ k1 = 6) → k2 ≠ 3 → k2 ≠ 6 → k2 ≠ 4 → touchX k1 x1 y1 r1 a1 k2 x2 y2 r2 a2 = cmpEv BinOp.geq (disX a1 x2 y2 r2) 0 := fun h h1 h2 h3 => by
    unfold touchX; rw [if_neg (by omega), if_pos h, if_neg (by omega), Bool.eq_iff_iff, cmp_t]; simp only [cmpP, decide_eq_true_eq, ge_iff_le]
  have HDA : k1 ≠ 3 → k1 ≠ 6 → k1 ≠ 4 → (k2 = 3 ∨ k2 = 6) → touchX k1 x1 y1 r1 a1 k2 x2 y2 r2 a2 = cmpEv BinOp.geq (disX a2 x1 y1 r1) 0 := fun h1 h2 h3 h => by
    unfold touchX; rw [if_neg (by omega), if_neg (by omega), if_pos h, Bool.eq_iff_iff, cmp_t]; simp only [cmpP, decide_eq_true_eq, ge_iff_le]
  have HDD : k1 ≠ 3 → k1 ≠ 6 → k1 ≠ 4 → k2 ≠ 3 → k2 ≠ 6 → k2 ≠ 4 → touchX k1 x1 y1 r1 a1 k2 x2 y2 r2 a2 = nearB x2 y2 x1 y1 x1 y1 (r2 + r1) := fun h1 h2 h3 h4 h5 h6 => by unfold touchX; rw [if_neg (by omega), if_neg (by omega), if_neg (by omega)]
  have EAA : (k1 = 3 ∨ k1 = 6) → (k2 = 3 ∨ k2 = 6) → touR [.l a1, .l a2] = touX a1 a2 ∧ touE [.l a1, .l a2] = 0 := fun h h' => (ho_two (A1 h) (A2 h')).2
  have EAD : (k1 = 3 ∨ k1 = 6) → k2 ≠ 3 → k2 ≠ 6 → disR [.l a1, .i x2, .i y2, .i r2] = disX a1 x2 y2 r2 ∧ disE [.l a1, .i x2, .i y2, .i r2] = 0 := fun h h1 h2 => dis_two (A1 h) (D2 h1 h2).1 (by have := (D2 h1 h2).2; omega)
  have EDA : k1 ≠ 3 → k1 ≠ 6 → (k2 = 3 ∨ k2 = 6) → disR [.l a2, .i x1, .i y1, .i r1] = disX a2 x1 y1 r1 ∧ disE [.l a2, .i x1, .i y1, .i r1] = 0 := fun h1 h2 h => dis_two (A2 h) (D1 h1 h2).1 (by have := (D1 h1 h2).2; omega)
  have EDD : k1 ≠ 3 → k1 ≠ 6 → k2 ≠ 3 → k2 ≠ 6 → nearR [.i x2, .i y2, .i x1, .i y1, .i x1, .i y1, .i (IntKind.i64.wrap (r2 + r1))] = nearB x2 y2 x1 y1 x1 y1 (r2 + r1) ∧ nearE [.i x2, .i y2, .i x1, .i y1, .i x1, .i y1, .i (IntKind.i64.wrap (r2 + r1))] = 0 := fun h1 h2 h3 h4 => by
    have q1 := (D1 h1 h2).2
    have q2 := (D2 h3 h4).2
    rw [wrap_in (r2 + r1) (by omega) (by omega)]
    exact near_two (D1 h1 h2).1 (D2 h3 h4).1 (by omega)
  clear A1 A2 D1 D2 f1 f2
  repeat' (first | (intro h; skip) | (refine And.intro ?_ ?_))
  all_goals first
    | omega
    | exact T _ (H4 (by omega))
    | (rw [(EAA (by omega) (by omega)).1]; exact T _ (HAA (by omega) (by omega)))
    | (exact absurd (EAA (by omega) (by omega)).2 (by assumption))
    | (rw [(EAD (by omega) (by omega) (by omega)).1]; exact T _ (HAD (by omega) (by omega) (by omega) (by omega)))
    | (exact absurd (EAD (by omega) (by omega) (by omega)).2 (by assumption))
    | (rw [(EDA (by omega) (by omega) (by omega)).1]; exact T _ (HDA (by omega) (by omega) (by omega) (by omega)))
    | (exact absurd (EDA (by omega) (by omega) (by omega)).2 (by assumption))
    | (rw [(EDD (by omega) (by omega) (by omega) (by omega)).1]; exact T _ (HDD (by omega) (by omega) (by omega) (by omega) (by omega) (by omega)))
    | (exact absurd (EDD (by omega) (by omega) (by omega) (by omega)).2 (by assumption))
def K76 : Interp where
  fi n l := match n with | 119 => feE l | n => K75.fi n l
  fb n l := match n with | 119 => feHoR l | 120 => feToR l | n => K75.fb n l
  fd _ _ := []
theorem K76_K75 {ρ : Env} (h : Sees ρ K76 122) : Sees ρ K75 119 := h.trans (by decide) fun n l hn => by
  refine ⟨?_, ?_⟩
  ·
    simp only [K76]
    split <;> first | omega | rfl
  ·
    simp only [K76]
    split <;> first | omega | rfl
def cFeHolds := ctD [feat, feat] fun al => .ret (.tup [.one (sBF 119 feHoR al), .one (sIF 119 feE al)])
theorem cFeHolds_ok {ρ : Env} (h : Sees ρ K76 122) : CtOne Tryz.prog ρ 13 cFeHolds :=
  ctD_ok gFeHolds (fun _ => rfl) (fun al => by simp only [V.val, V2.val, S.val, S0.val, sIF, sBF, List.map_cons, List.map_nil, bF_ev (s := 119) (f := feHoR) (fun l => by rw [(h 119 l (by decide)).2]; simp only [K76, K75, K74, K73, K72, K71, KI, KH, KG, KF, KE, KD, KC, KB, KA, K9, K8, K7, K6, K5, K]), iF_ev (s := 119) (f := feE) (fun l => by rw [(h 119 l (by decide)).1]; simp only [K76, K75, K74, K73, K72, K71, KI, KH, KG, KF, KE, KD, KC, KB, KA, K9, K8, K7, K6, K5, K])]; try rfl)
def cFeTouch := ctD [feat, feat] fun al => .ret (.tup [.one (sBF 120 feToR al), .one (sIF 119 feE al)])
theorem cFeTouch_ok {ρ : Env} (h : Sees ρ K76 122) : CtOne Tryz.prog ρ 17 cFeTouch :=
  ctD_ok gFeTouch (fun _ => rfl) (fun al => by simp only [V.val, V2.val, S.val, S0.val, sIF, sBF, List.map_cons, List.map_nil, bF_ev (s := 120) (f := feToR) (fun l => by rw [(h 120 l (by decide)).2]; simp only [K76, K75, K74, K73, K72, K71, KI, KH, KG, KF, KE, KD, KC, KB, KA, K9, K8, K7, K6, K5, K]), iF_ev (s := 119) (f := feE) (fun l => by rw [(h 119 l (by decide)).1]; simp only [K76, K75, K74, K73, K72, K71, KI, KH, KG, KF, KE, KD, KC, KB, KA, K9, K8, K7, K6, K5, K])]; try rfl)
def ctE6 : Ct := (13, cFeHolds) :: (17, cFeTouch) :: ctE5
theorem ctE6_ok {ρ : Env} (h : Sees ρ K76 122) : CtOk Tryz.prog ρ ctE6 := .cons (cFeHolds_ok h) <| .cons (cFeTouch_ok h) (ctE5_ok (K76_K75 h))
end Go.Proofs.YtglepdhapakmbaaGreat
/- Chapter 07: slices.Grow of a nil list of sectors. -/
namespace Go.Proofs.YtglepdhapakmbaaGreat
open Go.RowKit
theorem info67 : (Tryz.prog.info? 56).map (fun i => (i.zero, i.size, i.bytes)) = some (some (.agg #[.int .i64 0, .int .i64 0, .int .i64 0, .int .i64 0, .int .i64 0, .int .i64 0]), 6, 48) := by kernel_rfl
set_option maxRecDepth 100000 in
theorem grow_nil (n : Nat) (hn : n ≤ 1000000) (w : World) : Calls Tryz.prog 115 #[.slice none 0 0, .int .i64 n] w (fun e w' => ∃ a c, e = .returned (.slice a 0 c) ∧ Below w.heap.size w w' ∧ w'.ownsRow w.heap.size 56 6 (.slice a 0 c) 0 []) := by
  obtain ⟨i0, hi, hz0, hz1, hz2⟩ := info_parts info67
  go_enter Tryz.func115, Tryz.ntmps115
  have hb : (Tryz.t56).bytes = 48 := by kernel_rfl
  have hge := grownCap_ge w n 0 56
  have hle := grownCap_le_maxLen w n 0 56 (by simp only [maxLen]; omega)
  go_wp2
  · exfalso
    have hc := nextslicecap_zero (show 0 < n by omega)
    simp only [hc] at *
    omega
  · go_ret
    refine ⟨some ⟨w.heap.size, 0, none⟩, grownCap w n 0 56, rfl, by (repeat' (first | (with_reducible exact Below.refl _ _) | (with_reducible assumption) | (with_reducible refine Below.alloc ?_ ?_ _) | (with_reducible refine Below.setCell ?_ ?_ _) | (with_reducible refine Below.drew ?_) | (with_reducible refine Below.trans ?_ (Below.mono (by assumption) ?_)) | omega | (dsimp only; omega) | ((repeat (first | rw [World.size_alloc] | rw [World.size_setCell] | rw [World.size_drew])); (try dsimp only); omega))), rfl, .inr ⟨w.heap.size, grownCap w n 0 56, _, rfl, Nat.le_refl _, heap_alloc_new w _, Nat.zero_le _, hle, ?_, by simp⟩⟩
    have e : ∀ z : Array Value, z.size = 6 → (Builtin.zeroCells z n ++ Builtin.zeroCells z (grownCap w n 0 56 - n)).size = grownCap w n 0 56 * 6 := fun z hz => by
      simp only [Array.size_append, size_zeroCells, hz]
      omega
    exact e _ rfl
  · go_ret
    exact ⟨none, 0, rfl, Below.refl _ _, rfl, .inl ⟨rfl, rfl⟩⟩
def secCK : List CK := [.int .i64, .int .i64, .int .i64, .int .i64, .int .i64, .int .i64]
def cGrowS (args : List V) (_mem : Mem) (nx : Nat) : T OpR := match args with
  | [.v (.one (.z (.const (.slice none 0 0)))), .v (.one (.z (.int .i64 n)))] => T.obs [.tru (.cmpS .leq (.lit 0) n), .tru (.cmpS .leq n (.lit 1000000))] (.ret (.s0 (.own nx (.lit 0)), [(nx, .own 56 secCK .nil (.lit 0))], nx + 1))
  | _ => .stuck "Grow"
theorem cGrowS_ok {ρ : Env} : CtOne Tryz.prog ρ 115 cGrowS := by
  intro args mem nx q hq hle σ W vals hr hfr hd
  unfold cGrowS at hq
  split at hq
  · rename_i n
    obtain ⟨ho, hq⟩ := T.res_obs hq
    obtain rfl := res_ret hq
    obtain ⟨u1, us, rfl, d1, d2⟩ := DL.cons_inv hd
    obtain ⟨u2, us2, rfl, d3, d4⟩ := DL.cons_inv d2
    obtain rfl := DL.nil_inv d4
    have o1 := ho _ (List.mem_cons_self ..)
    have o2 := ho _ (List.mem_cons_of_mem _ (List.mem_cons_self ..))
    simp only [Ob.ok, B.cmpS_ev, cmp_t, cmpP, E.ev] at o1 o2
    obtain rfl : u1 = .slice none 0 0 := d1
    obtain rfl : u2 = .int .i64 (n.ev ρ) := d3
    obtain ⟨k, hk⟩ := Int.eq_ofNat_of_zero_le o1
    rw [hk] at o2 ⊢
    have hc := grow_nil k (by omega) W
    have hw : CallsIn Fence.wide 0 Tryz.prog 115 #[.slice none 0 0, .int .i64 k] W _ := callsIn_wide.2 hc
    refine CallsIn.mono (F := FR none) hw ?_
    rintro en W' ⟨a, c, rfl, hb, hrow0⟩
    have hrow : OwnRow W' W.heap.size 56 secCK.length (.slice a 0 c) 0 [] := .inl hrow0
    have hnx := hfr nx (Nat.le_refl _) (Nat.lt_succ_self _)
    have hnone : ∀ k, σ.h nx k = .none := fun k => by
      cases hk : σ.h nx k with
      | none => rfl
      | some y => exact absurd (.inr ⟨k, y, hk⟩) hnx
    have hx : X.ev ρ .nil = [] := rfl
    have hstep := step_say (ρ := ρ) (σ := σ) (W := W) (id := nx) (t := 56) (ks := secCK) (x := .nil) (ver := .lit 0) (v := .slice .none 0 0) (v' := .slice a 0 c) (W' := W') (xs := []) (fun i a hi => hr.lt i a hi) (hnone _) (fun u _ => hnone u) hr.inj (fun k hk => by cases hk)
      (by
        rw [hx]
        exact ⟨hrow.base hr.base.size, hb.os, hb.tape, hb.output, hb.size, fun k hk _ => hb.block k hk, fun k hk => .inr (roomOf_new hrow hk), Keep.of_eq (fun k hk => hb.block k hk), a, c, rfl⟩)
      (by rw [hx]; exact fun i row hi => by simp at hi) (by rw [hx]; simp)
    exact ⟨_, _, rfl, ⟨⟨a, _, c, rfl⟩, As.say_self⟩, hstep, fun i hi => (say_has hi).imp id (fun h => ⟨by omega, by show i < nx + 1; omega⟩)⟩
  · exact hq.elim
end Go.Proofs.YtglepdhapakmbaaGreat
/- Chapter 07: the tree of sector.shown. -/
namespace Go.Proofs.YtglepdhapakmbaaGreat
open Go.RowKit
def ctE8 : Ct := (115, cGrowS) :: ctE6
-- term trShown: call Tryz.prog ctE8 (Lt.of []) 100 91 (symArgs 0 [secs, pt]) [] 0
def trShown : TT OpR :=
(.loop 0 3000 ⟨[(0, (.lit 0))], [], []⟩
 (.ite (.cmp .lss (.var 3000) (.len (.var 0)))
 (.ob (.tru (.cmp .leq (.lit 0) (.var 3000)))
 (.ob (.tru (.cmp .lss (.var 3000) (.len (.var 0))))
 (.ite (.fn 74 (.i (.rd (.var 0) (.var 3000) 0) (.i (.rd (.var 0) (.var 3000) 1) (.i (.rd (.var 0) (.var 3000) 2) (.i (.rd (.var 0) (.var 3000) 3) (.i (.rd (.var 0) (.var 3000) 4) (.i (.rd (.var 0) (.var 3000) 5) (.i (.var 1) (.i (.var 2) .nil)))))))))
 (.ite (.cmp .lss (.var 3000) (.lit 0))
 (.ret ((.v (.agg [(.z (.int .i64 (.lit 0))), (.z (.int .i64 (.lit 0)))])), [], 4))
 (.ob (.tru (.cmp .leq (.lit 0) (.var 3000)))
 (.ob (.tru (.cmp .lss (.var 3000) (.len (.var 0))))
 (.ob (.tru (.cmp .leq (.lit 0) (.var 3000)))
 (.ob (.tru (.cmp .lss (.var 3000) (.len (.var 0))))
 (.ret ((.v (.agg [(.z (.int .i64 (.rd (.var 0) (.var 3000) 4))), (.z (.int .i64 (.rd (.var 0) (.var 3000) 5)))])), [], 4)))))))
 (.next 0 ⟨[(0, (.ar .add .i64 (.var 3000) (.lit 1)))], [], []⟩))))
 (.ret ((.v (.agg [(.z (.int .i64 (.lit 0))), (.z (.int .i64 (.lit 0)))])), [], 4))))
-- end trShown
def trShown_h : List (Nat × St) := [
(2, ⟨([(.v (.one (.z (.ext [(.int .i64), (.int .i64), (.int .i64), (.int .i64), (.int .i64), (.int .i64)] (.var 0) false)))), (.v (.one (.z (.clo 61 [(0, 0)])))), (.v (.one (.z .any))), (.v (.one (.z .any))), (.v (.one (.z (.int .i64 (.lit 0))))), (.v (.one (.z .any))), (.v (.one (.z (.ext [(.int .i64), (.int .i64), (.int .i64), (.int .i64), (.int .i64), (.int .i64)] (.var 0) false)))), (.v (.one (.z (.int .i64 (.len (.var 0)))))), (.v (.one (.z (.int .i64 (.var 3000)))))] ++ List.replicate 10 V.any), [(1, (.cells 97 [(.z (.int .i64 (.lit 0))), (.z (.int .i64 (.lit 0)))])), (0, (.cells 81 [(.z (.int .i64 (.var 1))), (.z (.int .i64 (.var 2)))]))], 3, []⟩)]
def trShown_j : List (FuncId × Nat × Nat × St) := [
]
set_option maxRecDepth 100000 in
theorem trShown_is : T.norm 0 (call Tryz.prog ctE8 ⟨Lt.un (Lt.of []), trShown_h, trShown_j⟩ 100 91 (symArgs 0 [secs, pt]) [] 0) TT.ret = trShown := by kernel_rfl
theorem trShown_low : trShown.low 1000 = true := by kernel_rfl
end Go.Proofs.YtglepdhapakmbaaGreat
/- Chapter 07: sector.shown. -/
namespace Go.Proofs.YtglepdhapakmbaaGreat
open Go.RowKit
def shI (r : Rows) (x y : Int) : Nat → Nat → Nat
  | 0, i => i
  | f + 1, i => if hasB (lg r i 0) (lg r i 1) (lg r i 2) (lg r i 3) x y = true then i else shI r x y f (i + 1)
def shC (r : Rows) (x y : Int) : Int := if shI r x y r.length 0 < r.length then lg r (shI r x y r.length 0) 4 else 0
def shR (r : Rows) (x y : Int) : Int := if shI r x y r.length 0 < r.length then lg r (shI r x y r.length 0) 5 else 0
def shCL (ds : List D) : Int := shC (rAt ds 0) (iAt ds 1) (iAt ds 2)
def shRL (ds : List D) : Int := shR (rAt ds 0) (iAt ds 1) (iAt ds 2)
theorem K76b74 (W : World) (ds l : List D) : (envOf K76 W ds).fb 74 l = hasL l := by simp only [envOf, K76, K75, K74, K73, K72, K71, KI, KH, KG, KF, KE, KD, KC, KB, KA, K9, K8, K7, K6, K5, K]
theorem ctE8_ok {ρ : Env} (h : Sees ρ K76 122) : CtOk Tryz.prog ρ ctE8 := .cons cGrowS_ok (ctE6_ok h)
theorem gShown : Gives Tryz.prog 91 [secs, pt] (fun ds => .agg #[.int .i64 (shCL ds), .int .i64 (shRL ds)]) := by
  refine GivesIf.all (fn_gives K76 (by kernel_rfl) (fun ρ h => ctE8_ok (Sees.of h 122)) (by kernel_rfl) trShown_is trShown_low (by decide) (fun W vals ds hr _ => ?_))
  have hlen := secs_len hr
  simp only [trShown]
  have hP : shCL ds = shC (rAt ds 0) (iAt ds 1) (iAt ds 2) := rfl
  have hQ : shRL ds = shR (rAt ds 0) (iAt ds 1) (iAt ds 2) := rfl
  rw [hP, hQ]
  clear hP hQ hr
  generalize e0 : rAt ds 0 = r at *
  generalize e1 : iAt ds 1 = x at *
  generalize e2 : iAt ds 2 = y at *
  refine TT.sat_loop (fun v => ∃ i : Nat, v.i 0 = i ∧ i ≤ r.length ∧ shI r x y (r.length - i) i = shI r x y r.length 0) (fun v => r.length - (v.i 0).toNat)
    ⟨0, by simp [val_i, aget, E.ev], by omega, rfl⟩ (fun v hv => ?_)
  obtain ⟨i, i0, i1, i2⟩ := hv
  simp only [TT.sat_ret, TT.sat_ite, TT.sat_ob, TT.sat_next, TT.sat_stuck, put_i, put_b, put_d, put_fi, put_fb, put_fd, Ob.ok, B.ev, E.ev, X.ev, AL.ev, cmp_t, cmp_f, arEv, V.plain, V2.plain, S.plain, S0.plain, V.val, V2.val, S.val, S0.val, bV, iV, List.all_cons, List.all_nil, Bool.and_true, Bool.and_self, envOf_i, envOf_b, envOf_d, List.map_cons, List.map_nil, true_and, Bool.not_eq_true', Bool.not_eq_false', Bool.not_not, Bool.and_eq_true, and_f, cell_lg, cell_lb, cell_lr, cmpP, val_i, val_b, val_d, aget, Nat.reduceBEq, beq_self_eq_true, Bool.false_eq_true, if_true, if_false, Nat.reduceLT, Nat.reduceSub, Nat.sub_self, Nat.lt_irrefl, i0, e0, e1, e2, K76b74, has_eight]
  refine ⟨fun hc => ?_, fun hc => ?_⟩
  · have hi : i < r.length := by omega
    obtain ⟨f, hf⟩ : ∃ f, r.length - i = f + 1 := ⟨r.length - i - 1, by omega⟩
    have hf' : r.length - (i + 1) = f := by omega
    rw [hf, shI] at i2
    refine ⟨by omega, by omega, fun h => ⟨fun q => by omega, fun _ => ⟨by omega, by omega, by omega, by omega, ?_⟩⟩, fun h => ?_⟩
    · rw [if_pos h] at i2
      rw [shC, shR, ← i2, if_pos hi, if_pos hi]
    · rw [if_neg (by rw [h]; decide)] at i2
      rw [wrap_in ((i : Int) + 1) (by omega) (by omega)]
      exact ⟨⟨i + 1, rfl, by omega, by rw [hf']; exact i2⟩, by omega⟩
  · have h0 : i = r.length := by omega
    subst h0
    rw [Nat.sub_self, shI] at i2
    rw [shC, shR, ← i2, if_neg (by omega), if_neg (by omega)]
def K77 : Interp where
  fi n l := match n with | 122 => shCL l | 123 => shRL l | n => K76.fi n l
  fb n l := K76.fb n l
  fd _ _ := []
theorem K77_K76 {ρ : Env} (h : Sees ρ K77 126) : Sees ρ K76 122 := h.trans (by decide) fun n l hn => by
  refine ⟨?_, ?_⟩
  ·
    simp only [K77]
    split <;> first | omega | rfl
  ·
    rfl
def cShown := ctD [secs, pt] fun al => .ret (.v (.agg [sIF 122 shCL al, sIF 123 shRL al]))
theorem cShown_ok {ρ : Env} (h : Sees ρ K77 126) : CtOne Tryz.prog ρ 91 cShown :=
  ctD_ok gShown (fun _ => rfl) (fun al => by simp only [V.val, V2.val, S.val, S0.val, sIF, sBF, List.map_cons, List.map_nil, iF_ev (s := 122) (f := shCL) (fun l => by rw [(h 122 l (by decide)).1]; simp only [K77]), iF_ev (s := 123) (f := shRL) (fun l => by rw [(h 123 l (by decide)).1]; simp only [K77])])
def ctE9 : Ct := (91, cShown) :: ctE8
theorem ctE9_ok {ρ : Env} (h : Sees ρ K77 126) : CtOk Tryz.prog ρ ctE9 := .cons (cShown_ok h) (ctE8_ok (K77_K76 h))
end Go.Proofs.YtglepdhapakmbaaGreat
/- Chapter 07: the tree of sector.Safer. -/
namespace Go.Proofs.YtglepdhapakmbaaGreat
open Go.RowKit
-- term trSafer: call Tryz.prog ctE9 (Lt.of [(107, 0)]) 100 41 (symArgs 0 [secs, secs]) [] 0
def trSafer : TT OpR :=
(.ite (.not (.fn 75 (.x (.var 1) .nil)))
 (.ret ((.tup [(.one (.z (.bool (.lit false)))), (.one (.z (.int .i64 (.lit 1))))]), [], 5))
 (.ite (.not (.fn 75 (.x (.var 0) .nil)))
 (.ret ((.tup [(.one (.z (.bool (.lit false)))), (.one (.z (.int .i64 (.lit 1))))]), [], 5))
 (.ite (.cmp .lss (.ar .add .i64 (.lit 0) (.len (.var 1))) (.lit 0))
 (.stuck "operation")
 (.ite (.cmp .lss (.ar .add .i64 (.ar .add .i64 (.lit 0) (.len (.var 1))) (.len (.var 0))) (.lit 0))
 (.stuck "operation")
 (.ob (.tru (.cmp .leq (.lit 0) (.ar .add .i64 (.ar .add .i64 (.lit 0) (.len (.var 1))) (.len (.var 0)))))
 (.ob (.tru (.cmp .leq (.ar .add .i64 (.ar .add .i64 (.lit 0) (.len (.var 1))) (.len (.var 0))) (.lit 1000000)))
 (.ob (.tru (.cmp .leq (.len (.var 1)) (.lit 1000000)))
 (.ob (.tru (.cmp .leq (.len (.app (.var 1) (.var 0))) (.lit 1000000)))
 (.loop 0 11000 ⟨[(0, (.lit 0))], [], []⟩
 (.ite (.cmp .lss (.var 11000) (.len (.app (.var 1) (.var 0))))
 (.ob (.tru (.cmp .leq (.lit 0) (.var 11000)))
 (.ob (.tru (.cmp .lss (.var 11000) (.len (.app (.var 1) (.var 0)))))
 (.ite (.cmp .eql (.fn 122 (.x (.var 1) (.i (.rd (.app (.var 1) (.var 0)) (.var 11000) 0) (.i (.rd (.app (.var 1) (.var 0)) (.var 11000) 1) .nil)))) (.lit 1))
 (.ite (.cmp .neq (.fn 122 (.x (.var 0) (.i (.rd (.app (.var 1) (.var 0)) (.var 11000) 0) (.i (.rd (.app (.var 1) (.var 0)) (.var 11000) 1) .nil)))) (.lit 1))
 (.ret ((.tup [(.one (.z (.bool (.lit true)))), (.one (.z (.int .i64 (.lit 0))))]), [], 18))
 (.ite (.cmp .lss (.fn 123 (.x (.var 0) (.i (.rd (.app (.var 1) (.var 0)) (.var 11000) 0) (.i (.rd (.app (.var 1) (.var 0)) (.var 11000) 1) .nil)))) (.fn 123 (.x (.var 1) (.i (.rd (.app (.var 1) (.var 0)) (.var 11000) 0) (.i (.rd (.app (.var 1) (.var 0)) (.var 11000) 1) .nil)))))
 (.ret ((.tup [(.one (.z (.bool (.lit true)))), (.one (.z (.int .i64 (.lit 0))))]), [], 18))
 (.ite (.cmp .eql (.fn 122 (.x (.var 1) (.i (.rd (.app (.var 1) (.var 0)) (.var 11000) 2) (.i (.rd (.app (.var 1) (.var 0)) (.var 11000) 3) .nil)))) (.lit 1))
 (.ite (.cmp .neq (.fn 122 (.x (.var 0) (.i (.rd (.app (.var 1) (.var 0)) (.var 11000) 2) (.i (.rd (.app (.var 1) (.var 0)) (.var 11000) 3) .nil)))) (.lit 1))
 (.ret ((.tup [(.one (.z (.bool (.lit true)))), (.one (.z (.int .i64 (.lit 0))))]), [], 18))
 (.ite (.cmp .lss (.fn 123 (.x (.var 0) (.i (.rd (.app (.var 1) (.var 0)) (.var 11000) 2) (.i (.rd (.app (.var 1) (.var 0)) (.var 11000) 3) .nil)))) (.fn 123 (.x (.var 1) (.i (.rd (.app (.var 1) (.var 0)) (.var 11000) 2) (.i (.rd (.app (.var 1) (.var 0)) (.var 11000) 3) .nil)))))
 (.ret ((.tup [(.one (.z (.bool (.lit true)))), (.one (.z (.int .i64 (.lit 0))))]), [], 18))
 (.next 0 ⟨[(0, (.ar .add .i64 (.var 11000) (.lit 1)))], [], []⟩)))
 (.next 0 ⟨[(0, (.ar .add .i64 (.var 11000) (.lit 1)))], [], []⟩))))
 (.ite (.cmp .eql (.fn 122 (.x (.var 1) (.i (.rd (.app (.var 1) (.var 0)) (.var 11000) 2) (.i (.rd (.app (.var 1) (.var 0)) (.var 11000) 3) .nil)))) (.lit 1))
 (.ite (.cmp .neq (.fn 122 (.x (.var 0) (.i (.rd (.app (.var 1) (.var 0)) (.var 11000) 2) (.i (.rd (.app (.var 1) (.var 0)) (.var 11000) 3) .nil)))) (.lit 1))
 (.ret ((.tup [(.one (.z (.bool (.lit true)))), (.one (.z (.int .i64 (.lit 0))))]), [], 18))
 (.ite (.cmp .lss (.fn 123 (.x (.var 0) (.i (.rd (.app (.var 1) (.var 0)) (.var 11000) 2) (.i (.rd (.app (.var 1) (.var 0)) (.var 11000) 3) .nil)))) (.fn 123 (.x (.var 1) (.i (.rd (.app (.var 1) (.var 0)) (.var 11000) 2) (.i (.rd (.app (.var 1) (.var 0)) (.var 11000) 3) .nil)))))
 (.ret ((.tup [(.one (.z (.bool (.lit true)))), (.one (.z (.int .i64 (.lit 0))))]), [], 18))
 (.next 0 ⟨[(0, (.ar .add .i64 (.var 11000) (.lit 1)))], [], []⟩)))
 (.next 0 ⟨[(0, (.ar .add .i64 (.var 11000) (.lit 1)))], [], []⟩)))))
 (.ret ((.tup [(.one (.z (.bool (.lit false)))), (.one (.z (.int .i64 (.lit 0))))]), [], 18))))))))))))
-- end trSafer
def trSafer_h : List (Nat × St) := [
(10, ⟨([(.v (.one (.z (.yl 8)))), (.v (.one (.z (.ptr 6 0)))), (.v (.one (.z .any))), (.v (.one (.z .any))), (.v (.one (.z .any))), (.v (.one (.z (.sl 5 0 2 (some 2))))), (.v (.one (.z (.own 9 (.lit 2))))), (.v (.one (.z (.int .i64 (.len (.app (.var 1) (.var 0))))))), (.v (.one (.z (.int .i64 (.var 11000)))))] ++ List.replicate 16 V.any), [(9, (.own 67 [(.int .i64), (.int .i64), (.int .i64), (.int .i64), (.int .i64), (.int .i64)] (.app (.var 1) (.var 0)) (.lit 2))), (8, (.loop .ready none ([(.v (.one (.z (.ext [(.int .i64), (.int .i64), (.int .i64), (.int .i64), (.int .i64), (.int .i64)] (.var 1) false)))), (.v (.one (.z (.ext [(.int .i64), (.int .i64), (.int .i64), (.int .i64), (.int .i64), (.int .i64)] (.var 0) false)))), (.v (.one (.z (.int .i64 (.lit 1))))), (.v (.one (.z (.ptr 0 0)))), (.v (.one (.z (.ptr 1 0)))), (.v (.one (.z (.ptr 2 0)))), (.v (.one (.z (.ptr 3 0)))), (.v (.one (.z (.ptr 4 0)))), (.v (.one (.z .any))), (.v (.one (.z .any))), (.v (.one (.z .any))), (.v (.one (.z (.ext [(.int .i64), (.int .i64), (.int .i64), (.int .i64), (.int .i64), (.int .i64)] (.var 1) false)))), (.v (.one (.z (.bool (.fn 75 (.x (.var 1) .nil)))))), (.v (.one (.z (.bool (.not (.fn 75 (.x (.var 1) .nil))))))), (.v (.one (.z (.bool (.lit false))))), (.v (.one (.z (.ext [(.int .i64), (.int .i64), (.int .i64), (.int .i64), (.int .i64), (.int .i64)] (.var 0) false)))), (.v (.one (.z (.bool (.fn 75 (.x (.var 0) .nil)))))), (.v (.one (.z (.bool (.not (.fn 75 (.x (.var 0) .nil))))))), (.v (.one (.z (.bool (.not (.fn 75 (.x (.var 0) .nil))))))), (.v (.one (.z (.bool (.lit false))))), (.v (.one (.z (.int .i64 (.lit 1))))), (.v (.one (.z (.bool (.lit false))))), (.v (.one (.z (.bool (.lit false))))), (.v (.one (.z (.bool (.lit false))))), (.v (.one (.z (.int .i64 (.lit 1))))), (.v (.one (.z (.bool (.lit false))))), (.v (.one (.z (.bool (.lit false))))), (.v (.one (.z (.ext [(.int .i64), (.int .i64), (.int .i64), (.int .i64), (.int .i64), (.int .i64)] (.var 1) false)))), (.v (.one (.z (.ext [(.int .i64), (.int .i64), (.int .i64), (.int .i64), (.int .i64), (.int .i64)] (.var 0) false)))), (.v (.one (.z (.sl 5 0 2 (some 2))))), (.v (.one (.z (.clo 58 [(6, 0)]))))] ++ List.replicate 24 V.any) [] .skip .skip 7)), (7, (.dfd false)), (6, (.cells 104 [(.z (.sl 5 0 2 (some 2)))])), (5, (.cells 25 [(.z (.ext [(.int .i64), (.int .i64), (.int .i64), (.int .i64), (.int .i64), (.int .i64)] (.var 1) false)), (.z (.ext [(.int .i64), (.int .i64), (.int .i64), (.int .i64), (.int .i64), (.int .i64)] (.var 0) false))])), (4, (.cells 29 [(.z (.int .i64 (.lit 0)))])), (3, (.cells 4 [(.z (.bool (.lit false)))])), (2, (.cells 3 [(.z (.int .i64 (.lit 1)))])), (1, (.cells 25 [(.z (.ext [(.int .i64), (.int .i64), (.int .i64), (.int .i64), (.int .i64), (.int .i64)] (.var 0) false))])), (0, (.cells 25 [(.z (.ext [(.int .i64), (.int .i64), (.int .i64), (.int .i64), (.int .i64), (.int .i64)] (.var 1) false))]))], 11, []⟩)]
def trSafer_j : List (FuncId × Nat × Nat × St) := [
]
set_option maxRecDepth 100000 in
theorem trSafer_is : T.norm 0 (call Tryz.prog ctE9 ⟨Lt.un (Lt.of [(107, 0)]), trSafer_h, trSafer_j⟩ 100 41 (symArgs 0 [secs, secs]) [] 0) TT.ret = trSafer := by kernel_rfl
theorem trSafer_low : trSafer.low 1000 = true := by kernel_rfl
end Go.Proofs.YtglepdhapakmbaaGreat
/- Chapter 07: sector.Safer. -/
namespace Go.Proofs.YtglepdhapakmbaaGreat
open Go.RowKit
def wrD (x y : Rows) (dx dy : Int) : Bool := decide (shC x dx dy = 1) && (decide (¬ shC y dx dy = 1) || decide (shR y dx dy < shR x dx dy))
def sfN (x y l : Rows) : Nat → Nat → Bool
  | 0, _ => false
  | f + 1, i => wrD x y (lg l i 0) (lg l i 1) || (wrD x y (lg l i 2) (lg l i 3) || sfN x y l f (i + 1))
def saferX (a b : Rows) : Bool := sfN b a (b ++ a) (b ++ a).length 0
def saO (ds : List D) : Bool := secsB (rAt ds 0) && secsB (rAt ds 1)
def saR (ds : List D) : Bool := saO ds && saferX (rAt ds 0) (rAt ds 1)
def saE (ds : List D) : Int := if saO ds then 0 else 1
theorem K77b75 (W : World) (ds l : List D) : (envOf K77 W ds).fb 75 l = secsL l := by simp only [envOf, K77, K76, K75, K74, K73, K72, K71, KI, KH, KG, KF, KE, KD, KC, KB, KA, K9, K8, K7, K6, K5, K]
theorem K77i122 (W : World) (ds l : List D) : (envOf K77 W ds).fi 122 l = shCL l := by simp only [envOf, K77, K76, K75, K74, K73, K72, K71, KI, KH, KG, KF, KE, KD, KC, KB, KA, K9, K8, K7, K6, K5, K]
theorem K77i123 (W : World) (ds l : List D) : (envOf K77 W ds).fi 123 l = shRL l := by simp only [envOf, K77, K76, K75, K74, K73, K72, K71, KI, KH, KG, KF, KE, KD, KC, KB, KA, K9, K8, K7, K6, K5, K]
theorem shC_three (r : Rows) (x y : Int) : shCL [.l r, .i x, .i y] = shC r x y := rfl
theorem shR_three (r : Rows) (x y : Int) : shRL [.l r, .i x, .i y] = shR r x y := rfl
theorem secsB_len {r : Rows} (h : secsB r = true) : r.length ≤ 12 := by
  simp only [secsB, Bool.and_eq_true, decide_eq_true_eq] at h
  exact h.2
set_option maxHeartbeats 2000000 in
theorem gSafer : Gives Tryz.prog 41 [secs, secs] (fun ds => .tuple #[.bool (saR ds), .int .i64 (saE ds)]) := by
  refine GivesIf.all (fn_gives K77 (by kernel_rfl) (fun ρ h => ctE9_ok (Sees.of h 126)) (by kernel_rfl) trSafer_is trSafer_low (by decide) (fun W vals ds hr _ => ?_))
  simp only [trSafer, TT.sat_ret, TT.sat_ite, TT.sat_ob, TT.sat_next, TT.sat_stuck, put_i, put_b, put_d, put_fi, put_fb, put_fd, Ob.ok, B.ev, E.ev, X.ev, AL.ev, cmp_t, cmp_f, arEv, V.plain, V2.plain, S.plain, S0.plain, V.val, V2.val, S.val, S0.val, bV, iV, List.all_cons, List.all_nil, Bool.and_true, Bool.and_self, envOf_i, envOf_b, envOf_d, List.map_cons, List.map_nil, true_and, Bool.not_eq_true', Bool.not_eq_false', Bool.not_not, Bool.and_eq_true, and_f, cell_lg, cell_lb, cell_lr, cmpP, val_i, val_b, val_d, aget, Nat.reduceBEq, beq_self_eq_true, Bool.false_eq_true, if_true, if_false, Nat.reduceLT, Nat.reduceSub, Nat.sub_self, Nat.lt_irrefl, K77b75, secs_one]
  have F : saO ds = false → Value.tuple #[.bool false, .int .i64 1] = Value.tuple #[.bool (saR ds), .int .i64 (saE ds)] := fun h => by simp [saR, saE, h]
  refine ⟨fun h => F ?_, fun h1 => ⟨fun h => F ?_, fun h2 => ?_⟩⟩
  · simp only [saO, h, Bool.and_false]
  · simp only [saO, h, Bool.false_and]
  have T : ∀ b, saferX (rAt ds 0) (rAt ds 1) = b → Value.tuple #[.bool b, .int .i64 0] = Value.tuple #[.bool (saR ds), .int .i64 (saE ds)] := fun b h => by simp [saR, saE, saO, h1, h2, h]
  clear F hr
  have l1 := secsB_len h1
  have l2 := secsB_len h2
  generalize e0 : rAt ds 0 = a at *
  generalize e1 : rAt ds 1 = b at *
  have hab : (b ++ a).length = b.length + a.length := List.length_append
  rw [Int.zero_add, wrap_in (b.length : Int) (by omega) (by omega), wrap_in ((b.length : Int) + a.length) (by omega) (by omega)]
  refine ⟨fun h => by omega, fun _ => ⟨fun h => by omega, fun _ => ⟨by omega, by omega, by omega, by omega, ?_⟩⟩⟩
  refine TT.sat_loop (fun v => ∃ i : Nat, v.i 0 = i ∧ i ≤ (b ++ a).length ∧ sfN b a (b ++ a) ((b ++ a).length - i) i = saferX a b) (fun v => (b ++ a).length - (v.i 0).toNat)
    ⟨0, by simp [val_i, aget, E.ev], by omega, rfl⟩ (fun v hv => ?_)
  obtain ⟨i, i0, i1, i2⟩ := hv
  simp only [TT.sat_ret, TT.sat_ite, TT.sat_ob, TT.sat_next, TT.sat_stuck, put_i, put_b, put_d, put_fi, put_fb, put_fd, Ob.ok, B.ev, E.ev, X.ev, AL.ev, cmp_t, cmp_f, arEv, V.plain, V2.plain, S.plain, S0.plain, V.val, V2.val, S.val, S0.val, bV, iV, List.all_cons, List.all_nil, Bool.and_true, Bool.and_self, envOf_i, envOf_b, envOf_d, List.map_cons, List.map_nil, true_and, Bool.not_eq_true', Bool.not_eq_false', Bool.not_not, Bool.and_eq_true, and_f, cell_lg, cell_lb, cell_lr, cmpP, val_i, val_b, val_d, aget, Nat.reduceBEq, beq_self_eq_true, Bool.false_eq_true, if_true, if_false, Nat.reduceLT, Nat.reduceSub, Nat.sub_self, Nat.lt_irrefl, i0, e0, e1, K77i122, K77i123, shC_three, shR_three]
  refine ⟨fun hc => ?_, fun hc => ?_⟩
  · have hi : i < (b ++ a).length := by omega
    obtain ⟨f, hf⟩ : ∃ f, (b ++ a).length - i = f + 1 := ⟨(b ++ a).length - i - 1, by omega⟩
    have hf' : (b ++ a).length - (i + 1) = f := by omega
    rw [hf, sfN] at i2
    rw [wrap_in ((i : Int) + 1) (by omega) (by omega)]
    have B : (wrD b a (lg (b ++ a) i 0) (lg (b ++ a) i 1) = true ∨ wrD b a (lg (b ++ a) i 2) (lg (b ++ a) i 3) = true) → Value.tuple #[.bool true, .int .i64 0] = Value.tuple #[.bool (saR ds), .int .i64 (saE ds)] := fun h => T _ (by
      rw [← i2]
      rcases h with h | h
      · rw [h]; rfl
      · rw [h, Bool.true_or, Bool.or_true])
    have N : wrD b a (lg (b ++ a) i 0) (lg (b ++ a) i 1) = false → wrD b a (lg (b ++ a) i 2) (lg (b ++ a) i 3) = false → (∃ j : Nat, (i : Int) + 1 = j ∧ j ≤ (b ++ a).length ∧ sfN b a (b ++ a) ((b ++ a).length - j) j = saferX a b) ∧ (b ++ a).length - ((i : Int) + 1).toNat < (b ++ a).length - (i : Int).toNat :=
      fun h h' => ⟨⟨i + 1, rfl, by omega, by rw [hf', ← i2, h, h']; rfl⟩, by omega⟩
    unfold wrD at B N
    simp only [Bool.and_eq_true, Bool.or_eq_true, decide_eq_true_eq, Bool.and_eq_false_iff, Bool.or_eq_false_iff, decide_eq_false_iff_not] at B N
    clear i2 T
    generalize shC b (lg (b ++ a) i 0) (lg (b ++ a) i 1) = p1 at *
    generalize shC a (lg (b ++ a) i 0) (lg (b ++ a) i 1) = p2 at *
    generalize shR b (lg (b ++ a) i 0) (lg (b ++ a) i 1) = p3 at *
    generalize shR a (lg (b ++ a) i 0) (lg (b ++ a) i 1) = p4 at *
    generalize shC b (lg (b ++ a) i 2) (lg (b ++ a) i 3) = q1 at *
    generalize shC a (lg (b ++ a) i 2) (lg (b ++ a) i 3) = q2 at *
    generalize shR b (lg (b ++ a) i 2) (lg (b ++ a) i 3) = q3 at *
    generalize shR a (lg (b ++ a) i 2) (lg (b ++ a) i 3) = q4 at *
    repeat' (first | (intro h; skip) | (refine And.intro ?_ ?_))
    all_goals first
      | omega
      | (refine B ?_; omega)
      | exact (N (by omega) (by omega)).1
      | exact (N (by omega) (by omega)).2
  · have h0 : (b ++ a).length - i = 0 := by omega
    rw [h0, sfN] at i2
    exact T _ i2.symm
def K78 : Interp where
  fi n l := match n with | 126 => saE l | n => K77.fi n l
  fb n l := match n with | 126 => saR l | n => K77.fb n l
  fd _ _ := []
theorem K78_K77 {ρ : Env} (h : Sees ρ K78 128) : Sees ρ K77 126 := h.trans (by decide) fun n l hn => by
  refine ⟨?_, ?_⟩
  ·
    simp only [K78]
    split <;> first | omega | rfl
  ·
    simp only [K78]
    split <;> first | omega | rfl
def cSafer := ctD [secs, secs] fun al => .ret (.tup [.one (sBF 126 saR al), .one (sIF 126 saE al)])
theorem cSafer_ok {ρ : Env} (h : Sees ρ K78 128) : CtOne Tryz.prog ρ 41 cSafer :=
  ctD_ok gSafer (fun _ => rfl) (fun al => by simp only [V.val, V2.val, S.val, S0.val, sIF, sBF, List.map_cons, List.map_nil, bF_ev (s := 126) (f := saR) (fun l => by rw [(h 126 l (by decide)).2]; simp only [K78, K77, K76, K75, K74, K73, K72, K71, KI, KH, KG, KF, KE, KD, KC, KB, KA, K9, K8, K7, K6, K5, K]), iF_ev (s := 126) (f := saE) (fun l => by rw [(h 126 l (by decide)).1]; simp only [K78, K77, K76, K75, K74, K73, K72, K71, KI, KH, KG, KF, KE, KD, KC, KB, KA, K9, K8, K7, K6, K5, K])]; try rfl)
def ctE10 : Ct := (41, cSafer) :: ctE9
theorem ctE10_ok {ρ : Env} (h : Sees ρ K78 128) : CtOk Tryz.prog ρ ctE10 := .cons (cSafer_ok h) (ctE9_ok (K78_K77 h))
end Go.Proofs.YtglepdhapakmbaaGreat
/- Chapter 07: trees of feature.Stands, feature.Same. -/
namespace Go.Proofs.YtglepdhapakmbaaGreat
open Go.RowKit
-- term trFeStands: call Tryz.prog ctE10 (Lt.of []) 100 15 (symArgs 0 [feat, feat]) [] 0
def trFeStands : TT OpR :=
(.ite (.not (.fn 76 (.i (.var 0) (.i (.var 1) (.i (.var 2) (.i (.var 3) (.i (.var 4) (.x (.var 5) (.i (.var 6) (.i (.var 7) (.x (.var 8) .nil)))))))))))
 (.ret ((.tup [(.one (.z (.bool (.lit false)))), (.one (.z (.int .i64 (.lit 1))))]), [], 2))
 (.ite (.not (.fn 76 (.i (.var 9) (.i (.var 10) (.i (.var 11) (.i (.var 12) (.i (.var 13) (.x (.var 14) (.i (.var 15) (.i (.var 16) (.x (.var 17) .nil)))))))))))
 (.ret ((.tup [(.one (.z (.bool (.lit false)))), (.one (.z (.int .i64 (.lit 1))))]), [], 2))
 (.ite (.cmp .neq (.var 1) (.lit 4))
 (.ite (.cmp .leq (.var 15) (.var 6))
 (.ite (.cmp .eql (.var 10) (.lit 4))
 (.ite (.cmp .eql (.var 1) (.lit 4))
 (.ret ((.tup [(.one (.z (.bool (.lit true)))), (.one (.z (.int .i64 (.lit 0))))]), [], 6))
 (.ite (.cmp .eql (.var 1) (.lit 3))
 (.ite (.cmp .eql (.var 1) (.lit 3))
 (.ret ((.tup [(.one (.z (.bool (.lit false)))), (.one (.z (.int .i64 (.lit 0))))]), [], 6))
 (.ret ((.tup [(.one (.z (.bool (.lit false)))), (.one (.z (.int .i64 (.lit 0))))]), [], 6)))
 (.ite (.cmp .eql (.var 1) (.lit 6))
 (.ret ((.tup [(.one (.z (.bool (.lit false)))), (.one (.z (.int .i64 (.lit 0))))]), [], 6))
 (.ret ((.tup [(.one (.z (.bool (.lit false)))), (.one (.z (.int .i64 (.lit 0))))]), [], 6)))))
 (.ite (.cmp .eql (.var 10) (.lit 3))
 (.ite (.cmp .eql (.var 10) (.lit 3))
 (.ite (.cmp .eql (.var 1) (.lit 4))
 (.ret ((.tup [(.one (.z (.bool (.lit true)))), (.one (.z (.int .i64 (.lit 0))))]), [], 4))
 (.ite (.cmp .eql (.var 1) (.lit 3))
 (.ite (.cmp .eql (.var 1) (.lit 3))
 (.ite (.cmp .eql (.fn 112 (.x (.var 14) (.x (.var 5) .nil))) (.lit 0))
 (.ret ((.tup [(.one (.z (.bool (.fn 118 (.x (.var 14) (.x (.var 5) .nil)))))), (.one (.z (.int .i64 (.lit 0))))]), [], 4))
 (.ret ((.tup [(.one (.z (.bool (.lit false)))), (.one (.z (.int .i64 (.lit 0))))]), [], 4)))
 (.ite (.cmp .eql (.fn 114 (.x (.var 14) (.i (.var 2) (.i (.var 3) (.i (.var 4) .nil))))) (.lit 0))
 (.ret ((.tup [(.one (.z (.bool (.cmp .eql (.fn 113 (.x (.var 14) (.i (.var 2) (.i (.var 3) (.i (.var 4) .nil))))) (.lit 1))))), (.one (.z (.int .i64 (.lit 0))))]), [], 5))
 (.ret ((.tup [(.one (.z (.bool (.lit false)))), (.one (.z (.int .i64 (.lit 0))))]), [], 5))))
 (.ite (.cmp .eql (.var 1) (.lit 6))
 (.ite (.cmp .eql (.fn 112 (.x (.var 14) (.x (.var 5) .nil))) (.lit 0))
 (.ret ((.tup [(.one (.z (.bool (.fn 118 (.x (.var 14) (.x (.var 5) .nil)))))), (.one (.z (.int .i64 (.lit 0))))]), [], 4))
 (.ret ((.tup [(.one (.z (.bool (.lit false)))), (.one (.z (.int .i64 (.lit 0))))]), [], 4)))
 (.ite (.cmp .eql (.fn 114 (.x (.var 14) (.i (.var 2) (.i (.var 3) (.i (.var 4) .nil))))) (.lit 0))
 (.ret ((.tup [(.one (.z (.bool (.cmp .eql (.fn 113 (.x (.var 14) (.i (.var 2) (.i (.var 3) (.i (.var 4) .nil))))) (.lit 1))))), (.one (.z (.int .i64 (.lit 0))))]), [], 5))
 (.ret ((.tup [(.one (.z (.bool (.lit false)))), (.one (.z (.int .i64 (.lit 0))))]), [], 5))))))
 (.ite (.cmp .eql (.var 1) (.lit 4))
 (.ret ((.tup [(.one (.z (.bool (.lit true)))), (.one (.z (.int .i64 (.lit 0))))]), [], 5))
 (.ite (.cmp .eql (.var 1) (.lit 3))
 (.ite (.cmp .eql (.var 1) (.lit 3))
 (.loop 0 6000 ⟨[(0, (.lit 0))], [], []⟩
 (.ite (.cmp .lss (.var 6000) (.len (.var 5)))
 (.ob (.tru (.cmp .leq (.lit 0) (.var 6000)))
 (.ob (.tru (.cmp .lss (.var 6000) (.len (.var 5))))
 (.ite (.cmp .eql (.fn 13 (.i (.rd (.var 5) (.var 6000) 0) (.i (.rd (.var 5) (.var 6000) 1) (.i (.var 11) (.i (.var 12) (.i (.var 11) (.i (.var 12) (.i (.var 13) .nil)))))))) (.lit 0))
 (.ite (.not (.fn 7 (.i (.rd (.var 5) (.var 6000) 0) (.i (.rd (.var 5) (.var 6000) 1) (.i (.var 11) (.i (.var 12) (.i (.var 11) (.i (.var 12) (.i (.var 13) .nil)))))))))
 (.ret ((.tup [(.one (.z (.bool (.not (.cmp .geq (.var 6000) (.lit 0)))))), (.one (.z (.int .i64 (.lit 0))))]), [], 9))
 (.next 0 ⟨[(0, (.ar .add .i64 (.var 6000) (.lit 1)))], [], []⟩))
 (.ret ((.tup [(.one (.z (.bool (.not (.cmp .geq (.var 6000) (.lit 0)))))), (.one (.z (.int .i64 (.lit 0))))]), [], 9)))))
 (.ret ((.tup [(.one (.z (.bool (.lit true)))), (.one (.z (.int .i64 (.lit 0))))]), [], 9))))
 (.ite (.cmp .eql (.fn 111 (.i (.var 2) (.i (.var 3) (.i (.var 4) (.i (.var 11) (.i (.var 12) (.i (.var 13) .nil))))))) (.lit 0))
 (.ret ((.tup [(.one (.z (.bool (.fn 111 (.i (.var 2) (.i (.var 3) (.i (.var 4) (.i (.var 11) (.i (.var 12) (.i (.var 13) .nil)))))))))), (.one (.z (.int .i64 (.lit 0))))]), [], 6))
 (.ret ((.tup [(.one (.z (.bool (.lit false)))), (.one (.z (.int .i64 (.lit 0))))]), [], 6))))
 (.ite (.cmp .eql (.var 1) (.lit 6))
 (.loop 0 6000 ⟨[(0, (.lit 0))], [], []⟩
 (.ite (.cmp .lss (.var 6000) (.len (.var 5)))
 (.ob (.tru (.cmp .leq (.lit 0) (.var 6000)))
 (.ob (.tru (.cmp .lss (.var 6000) (.len (.var 5))))
 (.ite (.cmp .eql (.fn 13 (.i (.rd (.var 5) (.var 6000) 0) (.i (.rd (.var 5) (.var 6000) 1) (.i (.var 11) (.i (.var 12) (.i (.var 11) (.i (.var 12) (.i (.var 13) .nil)))))))) (.lit 0))
 (.ite (.not (.fn 7 (.i (.rd (.var 5) (.var 6000) 0) (.i (.rd (.var 5) (.var 6000) 1) (.i (.var 11) (.i (.var 12) (.i (.var 11) (.i (.var 12) (.i (.var 13) .nil)))))))))
 (.ret ((.tup [(.one (.z (.bool (.not (.cmp .geq (.var 6000) (.lit 0)))))), (.one (.z (.int .i64 (.lit 0))))]), [], 9))
 (.next 0 ⟨[(0, (.ar .add .i64 (.var 6000) (.lit 1)))], [], []⟩))
 (.ret ((.tup [(.one (.z (.bool (.not (.cmp .geq (.var 6000) (.lit 0)))))), (.one (.z (.int .i64 (.lit 0))))]), [], 9)))))
 (.ret ((.tup [(.one (.z (.bool (.lit true)))), (.one (.z (.int .i64 (.lit 0))))]), [], 9))))
 (.ite (.cmp .eql (.fn 111 (.i (.var 2) (.i (.var 3) (.i (.var 4) (.i (.var 11) (.i (.var 12) (.i (.var 13) .nil))))))) (.lit 0))
 (.ret ((.tup [(.one (.z (.bool (.fn 111 (.i (.var 2) (.i (.var 3) (.i (.var 4) (.i (.var 11) (.i (.var 12) (.i (.var 13) .nil)))))))))), (.one (.z (.int .i64 (.lit 0))))]), [], 6))
 (.ret ((.tup [(.one (.z (.bool (.lit false)))), (.one (.z (.int .i64 (.lit 0))))]), [], 6)))))))
 (.ite (.cmp .eql (.var 10) (.lit 6))
 (.ite (.cmp .eql (.var 1) (.lit 4))
 (.ret ((.tup [(.one (.z (.bool (.lit true)))), (.one (.z (.int .i64 (.lit 0))))]), [], 4))
 (.ite (.cmp .eql (.var 1) (.lit 3))
 (.ite (.cmp .eql (.var 1) (.lit 3))
 (.ite (.cmp .eql (.fn 112 (.x (.var 14) (.x (.var 5) .nil))) (.lit 0))
 (.ret ((.tup [(.one (.z (.bool (.fn 118 (.x (.var 14) (.x (.var 5) .nil)))))), (.one (.z (.int .i64 (.lit 0))))]), [], 4))
 (.ret ((.tup [(.one (.z (.bool (.lit false)))), (.one (.z (.int .i64 (.lit 0))))]), [], 4)))
 (.ite (.cmp .eql (.fn 114 (.x (.var 14) (.i (.var 2) (.i (.var 3) (.i (.var 4) .nil))))) (.lit 0))
 (.ret ((.tup [(.one (.z (.bool (.cmp .eql (.fn 113 (.x (.var 14) (.i (.var 2) (.i (.var 3) (.i (.var 4) .nil))))) (.lit 1))))), (.one (.z (.int .i64 (.lit 0))))]), [], 5))
 (.ret ((.tup [(.one (.z (.bool (.lit false)))), (.one (.z (.int .i64 (.lit 0))))]), [], 5))))
 (.ite (.cmp .eql (.var 1) (.lit 6))
 (.ite (.cmp .eql (.fn 112 (.x (.var 14) (.x (.var 5) .nil))) (.lit 0))
 (.ret ((.tup [(.one (.z (.bool (.fn 118 (.x (.var 14) (.x (.var 5) .nil)))))), (.one (.z (.int .i64 (.lit 0))))]), [], 4))
 (.ret ((.tup [(.one (.z (.bool (.lit false)))), (.one (.z (.int .i64 (.lit 0))))]), [], 4)))
 (.ite (.cmp .eql (.fn 114 (.x (.var 14) (.i (.var 2) (.i (.var 3) (.i (.var 4) .nil))))) (.lit 0))
 (.ret ((.tup [(.one (.z (.bool (.cmp .eql (.fn 113 (.x (.var 14) (.i (.var 2) (.i (.var 3) (.i (.var 4) .nil))))) (.lit 1))))), (.one (.z (.int .i64 (.lit 0))))]), [], 5))
 (.ret ((.tup [(.one (.z (.bool (.lit false)))), (.one (.z (.int .i64 (.lit 0))))]), [], 5))))))
 (.ite (.cmp .eql (.var 1) (.lit 4))
 (.ret ((.tup [(.one (.z (.bool (.lit true)))), (.one (.z (.int .i64 (.lit 0))))]), [], 5))
 (.ite (.cmp .eql (.var 1) (.lit 3))
 (.ite (.cmp .eql (.var 1) (.lit 3))
 (.loop 0 6000 ⟨[(0, (.lit 0))], [], []⟩
 (.ite (.cmp .lss (.var 6000) (.len (.var 5)))
 (.ob (.tru (.cmp .leq (.lit 0) (.var 6000)))
 (.ob (.tru (.cmp .lss (.var 6000) (.len (.var 5))))
 (.ite (.cmp .eql (.fn 13 (.i (.rd (.var 5) (.var 6000) 0) (.i (.rd (.var 5) (.var 6000) 1) (.i (.var 11) (.i (.var 12) (.i (.var 11) (.i (.var 12) (.i (.var 13) .nil)))))))) (.lit 0))
 (.ite (.not (.fn 7 (.i (.rd (.var 5) (.var 6000) 0) (.i (.rd (.var 5) (.var 6000) 1) (.i (.var 11) (.i (.var 12) (.i (.var 11) (.i (.var 12) (.i (.var 13) .nil)))))))))
 (.ret ((.tup [(.one (.z (.bool (.not (.cmp .geq (.var 6000) (.lit 0)))))), (.one (.z (.int .i64 (.lit 0))))]), [], 9))
 (.next 0 ⟨[(0, (.ar .add .i64 (.var 6000) (.lit 1)))], [], []⟩))
 (.ret ((.tup [(.one (.z (.bool (.not (.cmp .geq (.var 6000) (.lit 0)))))), (.one (.z (.int .i64 (.lit 0))))]), [], 9)))))
 (.ret ((.tup [(.one (.z (.bool (.lit true)))), (.one (.z (.int .i64 (.lit 0))))]), [], 9))))
 (.ite (.cmp .eql (.fn 111 (.i (.var 2) (.i (.var 3) (.i (.var 4) (.i (.var 11) (.i (.var 12) (.i (.var 13) .nil))))))) (.lit 0))
 (.ret ((.tup [(.one (.z (.bool (.fn 111 (.i (.var 2) (.i (.var 3) (.i (.var 4) (.i (.var 11) (.i (.var 12) (.i (.var 13) .nil)))))))))), (.one (.z (.int .i64 (.lit 0))))]), [], 6))
 (.ret ((.tup [(.one (.z (.bool (.lit false)))), (.one (.z (.int .i64 (.lit 0))))]), [], 6))))
 (.ite (.cmp .eql (.var 1) (.lit 6))
 (.loop 0 6000 ⟨[(0, (.lit 0))], [], []⟩
 (.ite (.cmp .lss (.var 6000) (.len (.var 5)))
 (.ob (.tru (.cmp .leq (.lit 0) (.var 6000)))
 (.ob (.tru (.cmp .lss (.var 6000) (.len (.var 5))))
 (.ite (.cmp .eql (.fn 13 (.i (.rd (.var 5) (.var 6000) 0) (.i (.rd (.var 5) (.var 6000) 1) (.i (.var 11) (.i (.var 12) (.i (.var 11) (.i (.var 12) (.i (.var 13) .nil)))))))) (.lit 0))
 (.ite (.not (.fn 7 (.i (.rd (.var 5) (.var 6000) 0) (.i (.rd (.var 5) (.var 6000) 1) (.i (.var 11) (.i (.var 12) (.i (.var 11) (.i (.var 12) (.i (.var 13) .nil)))))))))
 (.ret ((.tup [(.one (.z (.bool (.not (.cmp .geq (.var 6000) (.lit 0)))))), (.one (.z (.int .i64 (.lit 0))))]), [], 9))
 (.next 0 ⟨[(0, (.ar .add .i64 (.var 6000) (.lit 1)))], [], []⟩))
 (.ret ((.tup [(.one (.z (.bool (.not (.cmp .geq (.var 6000) (.lit 0)))))), (.one (.z (.int .i64 (.lit 0))))]), [], 9)))))
 (.ret ((.tup [(.one (.z (.bool (.lit true)))), (.one (.z (.int .i64 (.lit 0))))]), [], 9))))
 (.ite (.cmp .eql (.fn 111 (.i (.var 2) (.i (.var 3) (.i (.var 4) (.i (.var 11) (.i (.var 12) (.i (.var 13) .nil))))))) (.lit 0))
 (.ret ((.tup [(.one (.z (.bool (.fn 111 (.i (.var 2) (.i (.var 3) (.i (.var 4) (.i (.var 11) (.i (.var 12) (.i (.var 13) .nil)))))))))), (.one (.z (.int .i64 (.lit 0))))]), [], 6))
 (.ret ((.tup [(.one (.z (.bool (.lit false)))), (.one (.z (.int .i64 (.lit 0))))]), [], 6)))))))))
 (.ret ((.tup [(.one (.z (.bool (.lit false)))), (.one (.z (.int .i64 (.lit 0))))]), [], 2)))
 (.ite (.cmp .neq (.var 10) (.lit 4))
 (.ret ((.tup [(.one (.z (.bool (.lit false)))), (.one (.z (.int .i64 (.lit 0))))]), [], 2))
 (.ite (.not (.and (.cmp .eql (.var 11) (.var 2)) (.cmp .eql (.var 12) (.var 3))))
 (.ret ((.tup [(.one (.z (.bool (.lit false)))), (.one (.z (.int .i64 (.lit 0))))]), [], 2))
 (.ite (.cmp .eql (.fn 126 (.x (.var 8) (.x (.var 17) .nil))) (.lit 0))
 (.ret ((.tup [(.one (.z (.bool (.not (.fn 126 (.x (.var 8) (.x (.var 17) .nil))))))), (.one (.z (.int .i64 (.lit 0))))]), [], 2))
 (.ret ((.tup [(.one (.z (.bool (.lit false)))), (.one (.z (.int .i64 (.lit 0))))]), [], 2))))))))
-- end trFeStands
def trFeStands_h : List (Nat × St) := [
(5, ⟨([(.v (.one (.z (.ext [(.int .i64), (.int .i64)] (.var 5) false)))), (.v (.one (.z (.clo 119 [(4, 0)])))), (.v (.one (.z .any))), (.v (.one (.z .any))), (.v (.one (.z (.int .i64 (.lit 0))))), (.v (.one (.z .any))), (.v (.one (.z (.ext [(.int .i64), (.int .i64)] (.var 5) false)))), (.v (.one (.z (.int .i64 (.len (.var 5)))))), (.v (.one (.z (.int .i64 (.var 6000)))))] ++ List.replicate 10 V.any), [(4, (.cells 72 [(.z (.int .i64 (.var 11))), (.z (.int .i64 (.var 12))), (.z (.int .i64 (.var 13)))]))], 6, []⟩)]
def trFeStands_j : List (FuncId × Nat × Nat × St) := [
]
set_option maxRecDepth 100000 in
theorem trFeStands_is : T.norm 0 (call Tryz.prog ctE10 ⟨Lt.un (Lt.of []), trFeStands_h, trFeStands_j⟩ 100 15 (symArgs 0 [feat, feat]) [] 0) TT.ret = trFeStands := by kernel_rfl
theorem trFeStands_low : trFeStands.low 1000 = true := by kernel_rfl
-- term trFeSame: call Tryz.prog ctE10 (Lt.of []) 100 9 (symArgs 0 [feat, feat]) [] 0
def trFeSame : TT OpR :=
(.ite (.cmp .eql (.var 0) (.var 9))
 (.ite (.cmp .eql (.var 1) (.var 10))
 (.ite (.and (.cmp .eql (.var 2) (.var 11)) (.cmp .eql (.var 3) (.var 12)))
 (.ite (.cmp .eql (.var 4) (.var 13))
 (.ite (.cmp .eql (.var 6) (.var 15))
 (.ite (.cmp .eql (.var 7) (.var 16))
 (.ite (.cmp .neq (.len (.var 5)) (.len (.var 14)))
 (.ret ((.v (.one (.z (.bool (.lit false))))), [], 2))
 (.loop 0 3000 ⟨[(0, (.lit 0))], [], []⟩
 (.ite (.cmp .lss (.var 3000) (.len (.var 5)))
 (.ob (.tru (.cmp .leq (.lit 0) (.var 3000)))
 (.ob (.tru (.cmp .lss (.var 3000) (.len (.var 5))))
 (.ob (.tru (.cmp .leq (.lit 0) (.var 3000)))
 (.ob (.tru (.cmp .lss (.var 3000) (.len (.var 14))))
 (.ite (.not (.and (.cmp .eql (.rd (.var 5) (.var 3000) 0) (.rd (.var 14) (.var 3000) 0)) (.cmp .eql (.rd (.var 5) (.var 3000) 1) (.rd (.var 14) (.var 3000) 1))))
 (.ret ((.v (.one (.z (.bool (.lit false))))), [], 3))
 (.next 0 ⟨[(0, (.ar .add .i64 (.var 3000) (.lit 1)))], [], []⟩))))))
 (.ite (.cmp .neq (.len (.var 8)) (.len (.var 17)))
 (.ret ((.v (.one (.z (.bool (.lit false))))), [], 3))
 (.loop 1 4000 ⟨[(0, (.lit 0))], [], []⟩
 (.ite (.cmp .lss (.var 4000) (.len (.var 8)))
 (.ob (.tru (.cmp .leq (.lit 0) (.var 4000)))
 (.ob (.tru (.cmp .lss (.var 4000) (.len (.var 8))))
 (.ob (.tru (.cmp .leq (.lit 0) (.var 4000)))
 (.ob (.tru (.cmp .lss (.var 4000) (.len (.var 17))))
 (.ite (.not (.and (.and (.cmp .eql (.rd (.var 8) (.var 4000) 0) (.rd (.var 17) (.var 4000) 0)) (.cmp .eql (.rd (.var 8) (.var 4000) 1) (.rd (.var 17) (.var 4000) 1))) (.and (.and (.cmp .eql (.rd (.var 8) (.var 4000) 2) (.rd (.var 17) (.var 4000) 2)) (.cmp .eql (.rd (.var 8) (.var 4000) 3) (.rd (.var 17) (.var 4000) 3))) (.and (.cmp .eql (.rd (.var 8) (.var 4000) 4) (.rd (.var 17) (.var 4000) 4)) (.cmp .eql (.rd (.var 8) (.var 4000) 5) (.rd (.var 17) (.var 4000) 5))))))
 (.ret ((.v (.one (.z (.bool (.lit false))))), [], 4))
 (.next 1 ⟨[(0, (.ar .add .i64 (.var 4000) (.lit 1)))], [], []⟩))))))
 (.ret ((.v (.one (.z (.bool (.lit true))))), [], 4))))))))
 (.ret ((.v (.one (.z (.bool (.lit false))))), [], 2)))
 (.ret ((.v (.one (.z (.bool (.lit false))))), [], 2)))
 (.ret ((.v (.one (.z (.bool (.lit false))))), [], 2)))
 (.ret ((.v (.one (.z (.bool (.lit false))))), [], 2)))
 (.ret ((.v (.one (.z (.bool (.lit false))))), [], 2)))
 (.ret ((.v (.one (.z (.bool (.lit false))))), [], 2)))
-- end trFeSame
def trFeSame_h : List (Nat × St) := [
(2, ⟨([(.v (.one (.z (.ext [(.int .i64), (.int .i64)] (.var 5) false)))), (.v (.one (.z (.ext [(.int .i64), (.int .i64)] (.var 14) false)))), (.v (.one (.z .any))), (.v (.one (.z .any))), (.v (.one (.z (.bool (.lit false))))), (.v (.one (.z .any))), (.v (.one (.z (.ext [(.int .i64), (.int .i64)] (.var 5) false)))), (.v (.one (.z (.int .i64 (.len (.var 5)))))), (.v (.one (.z (.ext [(.int .i64), (.int .i64)] (.var 14) false)))), (.v (.one (.z (.int .i64 (.len (.var 14)))))), (.v (.one (.z (.bool (.cmp .neq (.len (.var 5)) (.len (.var 14))))))), (.v (.one (.z (.ext [(.int .i64), (.int .i64)] (.var 5) false)))), (.v (.one (.z (.int .i64 (.len (.var 5)))))), (.v (.one (.z (.int .i64 (.var 3000)))))] ++ List.replicate 12 V.any), [(1, (.cells 27 [(.z (.int .i64 (.var 9))), (.z (.int .i64 (.var 10))), (.z (.int .i64 (.var 11))), (.z (.int .i64 (.var 12))), (.z (.int .i64 (.var 13))), (.z (.ext [(.int .i64), (.int .i64)] (.var 14) false)), (.z (.int .i64 (.var 15))), (.z (.int .i64 (.var 16))), (.z (.ext [(.int .i64), (.int .i64), (.int .i64), (.int .i64), (.int .i64), (.int .i64)] (.var 17) false))])), (0, (.cells 27 [(.z (.int .i64 (.var 0))), (.z (.int .i64 (.var 1))), (.z (.int .i64 (.var 2))), (.z (.int .i64 (.var 3))), (.z (.int .i64 (.var 4))), (.z (.ext [(.int .i64), (.int .i64)] (.var 5) false)), (.z (.int .i64 (.var 6))), (.z (.int .i64 (.var 7))), (.z (.ext [(.int .i64), (.int .i64), (.int .i64), (.int .i64), (.int .i64), (.int .i64)] (.var 8) false))]))], 3, []⟩),
(3, ⟨([(.v (.one (.z (.ext [(.int .i64), (.int .i64), (.int .i64), (.int .i64), (.int .i64), (.int .i64)] (.var 8) false)))), (.v (.one (.z (.ext [(.int .i64), (.int .i64), (.int .i64), (.int .i64), (.int .i64), (.int .i64)] (.var 17) false)))), (.v (.one (.z .any))), (.v (.one (.z .any))), (.v (.one (.z (.bool (.lit false))))), (.v (.one (.z .any))), (.v (.one (.z (.ext [(.int .i64), (.int .i64), (.int .i64), (.int .i64), (.int .i64), (.int .i64)] (.var 8) false)))), (.v (.one (.z (.int .i64 (.len (.var 8)))))), (.v (.one (.z (.ext [(.int .i64), (.int .i64), (.int .i64), (.int .i64), (.int .i64), (.int .i64)] (.var 17) false)))), (.v (.one (.z (.int .i64 (.len (.var 17)))))), (.v (.one (.z (.bool (.cmp .neq (.len (.var 8)) (.len (.var 17))))))), (.v (.one (.z (.ext [(.int .i64), (.int .i64), (.int .i64), (.int .i64), (.int .i64), (.int .i64)] (.var 8) false)))), (.v (.one (.z (.int .i64 (.len (.var 8)))))), (.v (.one (.z (.int .i64 (.var 4000)))))] ++ List.replicate 12 V.any), [(1, (.cells 27 [(.z (.int .i64 (.var 9))), (.z (.int .i64 (.var 10))), (.z (.int .i64 (.var 11))), (.z (.int .i64 (.var 12))), (.z (.int .i64 (.var 13))), (.z (.ext [(.int .i64), (.int .i64)] (.var 14) false)), (.z (.int .i64 (.var 15))), (.z (.int .i64 (.var 16))), (.z (.ext [(.int .i64), (.int .i64), (.int .i64), (.int .i64), (.int .i64), (.int .i64)] (.var 17) false))])), (0, (.cells 27 [(.z (.int .i64 (.var 0))), (.z (.int .i64 (.var 1))), (.z (.int .i64 (.var 2))), (.z (.int .i64 (.var 3))), (.z (.int .i64 (.var 4))), (.z (.ext [(.int .i64), (.int .i64)] (.var 5) false)), (.z (.int .i64 (.var 6))), (.z (.int .i64 (.var 7))), (.z (.ext [(.int .i64), (.int .i64), (.int .i64), (.int .i64), (.int .i64), (.int .i64)] (.var 8) false))]))], 4, []⟩)]
def trFeSame_j : List (FuncId × Nat × Nat × St) := [
]
set_option maxRecDepth 100000 in
theorem trFeSame_is : T.norm 0 (call Tryz.prog ctE10 ⟨Lt.un (Lt.of []), trFeSame_h, trFeSame_j⟩ 100 9 (symArgs 0 [feat, feat]) [] 0) TT.ret = trFeSame := by kernel_rfl
theorem trFeSame_low : trFeSame.low 1000 = true := by kernel_rfl
end Go.Proofs.YtglepdhapakmbaaGreat
/- Chapter 07: feature.Stands, feature.Same. -/
namespace Go.Proofs.YtglepdhapakmbaaGreat
open Go.RowKit
def standX (k2 x2 y2 r2 : Int) (a2 : Rows) (d2 : Int) (t2 : Rows) (k1 x1 y1 r1 : Int) (a1 : Rows) (d1 : Int) (t1 : Rows) : Bool :=
  if k2 ≠ 4 then decide (d1 ≤ d2) && holdX k1 x1 y1 r1 a1 k2 x2 y2 r2 a2
  else decide (k1 = 4 ∧ x1 = x2 ∧ y1 = y2) && !saferX t2 t1
def feStR (ds : List D) : Bool := two9 ds && standX (iAt ds 1) (iAt ds 2) (iAt ds 3) (iAt ds 4) (rAt ds 5) (iAt ds 6) (rAt ds 8) (iAt ds 10) (iAt ds 11) (iAt ds 12) (iAt ds 13) (rAt ds 14) (iAt ds 15) (rAt ds 17)
theorem K78b76 (W : World) (ds l : List D) : (envOf K78 W ds).fb 76 l = featL l := by simp only [envOf, K78, K77, K76, K75, K74, K73, K72, K71, KI, KH, KG, KF, KE, KD, KC, KB, KA, K9, K8, K7, K6, K5, K]
theorem K78b118 (W : World) (ds l : List D) : (envOf K78 W ds).fb 118 l = hoR l := by simp only [envOf, K78, K77, K76, K75, K74, K73, K72, K71, KI, KH, KG, KF, KE, KD, KC, KB, KA, K9, K8, K7, K6, K5, K]
theorem K78i112 (W : World) (ds l : List D) : (envOf K78 W ds).fi 112 l = touE l := by simp only [envOf, K78, K77, K76, K75, K74, K73, K72, K71, KI, KH, KG, KF, KE, KD, KC, KB, KA, K9, K8, K7, K6, K5, K]
theorem K78i113 (W : World) (ds l : List D) : (envOf K78 W ds).fi 113 l = disR l := by simp only [envOf, K78, K77, K76, K75, K74, K73, K72, K71, KI, KH, KG, KF, KE, KD, KC, KB, KA, K9, K8, K7, K6, K5, K]
theorem K78i114 (W : World) (ds l : List D) : (envOf K78 W ds).fi 114 l = disE l := by simp only [envOf, K78, K77, K76, K75, K74, K73, K72, K71, KI, KH, KG, KF, KE, KD, KC, KB, KA, K9, K8, K7, K6, K5, K]
theorem K78b7 (W : World) (ds l : List D) : (envOf K78 W ds).fb 7 l = nearR l := by simp only [envOf, K78, K77, K76, K75, K74, K73, K72, K71, KI, KH, KG, KF, KE, KD, KC, KB, KA, K9, K8, K7, K6, K5, K]
theorem K78i13 (W : World) (ds l : List D) : (envOf K78 W ds).fi 13 l = nearE l := by simp only [envOf, K78, K77, K76, K75, K74, K73, K72, K71, KI, KH, KG, KF, KE, KD, KC, KB, KA, K9, K8, K7, K6, K5, K]
theorem K78b111 (W : World) (ds l : List D) : (envOf K78 W ds).fb 111 l = lieR l := by simp only [envOf, K78, K77, K76, K75, K74, K73, K72, K71, KI, KH, KG, KF, KE, KD, KC, KB, KA, K9, K8, K7, K6, K5, K]
theorem K78i111 (W : World) (ds l : List D) : (envOf K78 W ds).fi 111 l = lieE l := by simp only [envOf, K78, K77, K76, K75, K74, K73, K72, K71, KI, KH, KG, KF, KE, KD, KC, KB, KA, K9, K8, K7, K6, K5, K]
theorem K78b126 (W : World) (ds l : List D) : (envOf K78 W ds).fb 126 l = saR l := by simp only [envOf, K78, K77, K76, K75, K74, K73, K72, K71, KI, KH, KG, KF, KE, KD, KC, KB, KA, K9, K8, K7, K6, K5, K]
theorem K78i126 (W : World) (ds l : List D) : (envOf K78 W ds).fi 126 l = saE l := by simp only [envOf, K78, K77, K76, K75, K74, K73, K72, K71, KI, KH, KG, KF, KE, KD, KC, KB, KA, K9, K8, K7, K6, K5, K]
theorem feat_secs {id1 k1 x1 y1 r1 d1 s1 : Int} {a1 t1 : Rows} (h : featB id1 k1 x1 y1 r1 a1 d1 s1 t1 = true) (hk : k1 = 4) : secsB t1 = true := by
  have := (featB_iff.mp h).2.2.2.2
  rcases this with q | q | q
  · omega
  · omega
  · exact q.2.2.1
theorem sa_two {t1 t2 : Rows} (h1 : secsB t1 = true) (h2 : secsB t2 = true) : saR [.l t1, .l t2] = saferX t1 t2 ∧ saE [.l t1, .l t2] = 0 := by
  have : saO [.l t1, .l t2] = true := by show (secsB t1 && secsB t2) = true; rw [h1, h2]; rfl
  unfold saR saE
  rw [this]
  exact ⟨rfl, rfl⟩
set_option maxHeartbeats 4000000 in
theorem gFeStands : Gives Tryz.prog 15 [feat, feat] (fun ds => .tuple #[.bool (feStR ds), .int .i64 (feE ds)]) := by
  refine GivesIf.all (fn_gives K78 (by kernel_rfl) (fun ρ h => ctE10_ok (Sees.of h 128)) (by kernel_rfl) trFeStands_is trFeStands_low (by decide) (fun W vals ds hr _ => ?_))
  simp only [trFeStands, TT.sat_ret, TT.sat_ite, TT.sat_ob, TT.sat_next, TT.sat_stuck, put_i, put_b, put_d, put_fi, put_fb, put_fd, Ob.ok, B.ev, E.ev, X.ev, AL.ev, cmp_t, cmp_f, arEv, V.plain, V2.plain, S.plain, S0.plain, V.val, V2.val, S.val, S0.val, bV, iV, List.all_cons, List.all_nil, Bool.and_true, Bool.and_self, envOf_i, envOf_b, envOf_d, List.map_cons, List.map_nil, true_and, Bool.not_eq_true', Bool.not_eq_false', Bool.not_not, Bool.and_eq_true, and_f, cell_lg, cell_lb, cell_lr, cmpP, val_i, val_b, val_d, aget, Nat.reduceBEq, beq_self_eq_true, Bool.false_eq_true, if_true, if_false, Nat.reduceLT, Nat.reduceSub, Nat.sub_self, Nat.lt_irrefl, K78b76, K78b118, K78i112, K78i113, K78i114, K78i13, K78b7, K78b111, K78i111, K78b126, K78i126, feat_nine]
  have F : two9 ds = false → Value.tuple #[.bool false, .int .i64 1] = Value.tuple #[.bool (feStR ds), .int .i64 (feE ds)] := fun h => by simp [feStR, feE, h]
  have T0 : ∀ b, two9 ds = true → standX (iAt ds 1) (iAt ds 2) (iAt ds 3) (iAt ds 4) (rAt ds 5) (iAt ds 6) (rAt ds 8) (iAt ds 10) (iAt ds 11) (iAt ds 12) (iAt ds 13) (rAt ds 14) (iAt ds 15) (rAt ds 17) = b → Value.tuple #[.bool b, .int .i64 0] = Value.tuple #[.bool (feStR ds), .int .i64 (feE ds)] := fun b h h' => by simp [feStR, feE, h, h']
  refine ⟨fun h => F (by simp only [two9, h, Bool.false_and]), fun f1 => ⟨fun h => F (by simp only [two9, h, Bool.and_false]), fun f2 => ?_⟩⟩
  have hO : two9 ds = true := by simp only [two9, f1, f2, Bool.and_self]
  replace T0 := fun b => T0 b hO
  have T : ∀ b, iAt ds 1 ≠ 4 → iAt ds 15 ≤ iAt ds 6 → holdX (iAt ds 10) (iAt ds 11) (iAt ds 12) (iAt ds 13) (rAt ds 14) (iAt ds 1) (iAt ds 2) (iAt ds 3) (iAt ds 4) (rAt ds 5) = b → Value.tuple #[.bool b, .int .i64 0] = Value.tuple #[.bool (feStR ds), .int .i64 (feE ds)] := fun b h1 h2 h3 => T0 b (by rw [standX, if_pos h1, decide_eq_true h2, Bool.true_and, h3])
  have T4 : iAt ds 1 ≠ 4 → ¬ iAt ds 15 ≤ iAt ds 6 → Value.tuple #[.bool false, .int .i64 0] = Value.tuple #[.bool (feStR ds), .int .i64 (feE ds)] := fun h1 h2 => T0 _ (by rw [standX, if_pos h1, decide_eq_false h2]; rfl)
  have L1 : iAt ds 1 = 4 → iAt ds 10 ≠ 4 → Value.tuple #[.bool false, .int .i64 0] = Value.tuple #[.bool (feStR ds), .int .i64 (feE ds)] := fun h1 h2 => T0 _ (by rw [standX, if_neg (by omega), decide_eq_false (by omega)]; rfl)
  have L4 : iAt ds 1 = 4 → iAt ds 10 = 4 → saE [.l (rAt ds 8), .l (rAt ds 17)] = 0 := fun h1 h2 => (sa_two (feat_secs f1 h1) (feat_secs f2 h2)).2
  have L2 : iAt ds 1 = 4 → iAt ds 10 = 4 → iAt ds 11 = iAt ds 2 → iAt ds 12 = iAt ds 3 → True → Value.tuple #[.bool (!saR [.l (rAt ds 8), .l (rAt ds 17)]), .int .i64 0] = Value.tuple #[.bool (feStR ds), .int .i64 (feE ds)] := fun h1 h2 h3 h4 _ => T0 _ (by
    rw [standX, if_neg (by omega), decide_eq_true (by omega), (sa_two (feat_secs f1 h1) (feat_secs f2 h2)).1]; rfl)
  have L3 : iAt ds 1 = 4 → iAt ds 10 = 4 → ¬ (iAt ds 11 = iAt ds 2 ∧ iAt ds 12 = iAt ds 3) → Value.tuple #[.bool false, .int .i64 0] = Value.tuple #[.bool (feStR ds), .int .i64 (feE ds)] := fun h1 h2 h3 => T0 _ (by rw [standX, if_neg (by omega), decide_eq_false (by omega)]; rfl)
  refine ⟨fun n4 => ⟨fun hd => ?_, fun hd => T4 n4 hd⟩, fun e4 => ?_⟩
  case refine_2 =>
    have e4' : iAt ds 1 = 4 := by omega
    clear T T4 F hr hO
    repeat' (first | (intro h; skip) | (refine And.intro ?_ ?_))
    all_goals first
      | exact L1 e4' (by omega)
      | (exact L2 e4' (by omega) (by omega) (by omega) trivial)
      | exact L3 e4' (by omega) (by omega)
      | (exact absurd (L4 e4' (by omega)) (by assumption))
  replace T := fun b => T b n4 hd
  have g1 := f2
  have g2 := f1
  clear f1 f2 T0 T4 L1 L2 L3 L4 hd
  clear F hr hO
  generalize ek1 : iAt ds 10 = k1 at *
  generalize ex1 : iAt ds 11 = x1 at *
  generalize ey1 : iAt ds 12 = y1 at *
  generalize er1 : iAt ds 13 = r1 at *
  generalize rAt ds 14 = a1 at *
  generalize ek2 : iAt ds 1 = k2 at *
  generalize ex2 : iAt ds 2 = x2 at *
  generalize ey2 : iAt ds 3 = y2 at *
  generalize iAt ds 4 = r2 at *
  generalize ea2 : rAt ds 5 = a2 at *
  have A1 := feat_area g1
  have A2 := feat_area g2
  have D1 := feat_disc g1
  have D2 := feat_disc g2
  have H44 : k1 = 4 → holdX k1 x1 y1 r1 a1 k2 x2 y2 r2 a2 = decide (k2 = 4) := fun h => by unfold holdX; rw [if_pos h]
  have Hn4 : k1 ≠ 4 → k2 = 4 → holdX k1 x1 y1 r1 a1 k2 x2 y2 r2 a2 = true := fun h h' => by unfold holdX; simp only [if_neg h, if_pos h', ite_self]
  have HAA : (k1 = 3 ∨ k1 = 6) → (k2 = 3 ∨ k2 = 6) → holdX k1 x1 y1 r1 a1 k2 x2 y2 r2 a2 = hoX a1 a2 := fun h h' => by unfold holdX; rw [if_neg (by omega), if_pos h, if_neg (by omega), if_pos h']
  have HAD : (k1 = 3 ∨ k1 = 6) → k2 ≠ 3 → k2 ≠ 6 → k2 ≠ 4 → holdX k1 x1 y1 r1 a1 k2 x2 y2 r2 a2 = decide (disX a1 x2 y2 r2 = 1) := fun h h1 h2 h3 => by unfold holdX; rw [if_neg (by omega), if_pos h, if_neg h3, if_neg (by omega)]
  have HDA : k1 ≠ 3 → k1 ≠ 6 → k1 ≠ 4 → (k2 = 3 ∨ k2 = 6) → holdX k1 x1 y1 r1 a1 k2 x2 y2 r2 a2 = allD a2 x1 y1 r1 a2.length 0 := fun h1 h2 h3 h => by unfold holdX; rw [if_neg h3, if_neg (by omega), if_neg (by omega), if_pos h]
  have HDD : k1 ≠ 3 → k1 ≠ 6 → k1 ≠ 4 → k2 ≠ 3 → k2 ≠ 6 → k2 ≠ 4 → holdX k1 x1 y1 r1 a1 k2 x2 y2 r2 a2 = liesB x2 y2 r2 x1 y1 r1 := fun h1 h2 h3 h4 h5 h6 => by unfold holdX; rw [if_neg h3, if_neg (by omega), if_neg h6, if_neg (by omega)]
  have EAA : (k1 = 3 ∨ k1 = 6) → (k2 = 3 ∨ k2 = 6) → hoR [.l a1, .l a2] = hoX a1 a2 ∧ touE [.l a1, .l a2] = 0 := fun h h' => ⟨(ho_two (A1 h) (A2 h')).1, (ho_two (A1 h) (A2 h')).2.2⟩
  have EAD : (k1 = 3 ∨ k1 = 6) → k2 ≠ 3 → k2 ≠ 6 → disR [.l a1, .i x2, .i y2, .i r2] = disX a1 x2 y2 r2 ∧ disE [.l a1, .i x2, .i y2, .i r2] = 0 := fun h h1 h2 => dis_two (A1 h) (D2 h1 h2).1 (by have := (D2 h1 h2).2; omega)
  have EDD : k1 ≠ 3 → k1 ≠ 6 → k2 ≠ 3 → k2 ≠ 6 → lieR [.i x2, .i y2, .i r2, .i x1, .i y1, .i r1] = liesB x2 y2 r2 x1 y1 r1 ∧ lieE [.i x2, .i y2, .i r2, .i x1, .i y1, .i r1] = 0 := fun h1 h2 h3 h4 => lie_two (D1 h1 h2).1 (D2 h3 h4).1 (by have := (D1 h1 h2).2; omega) (by have := (D2 h3 h4).2; omega)
  have EDA : k1 ≠ 3 → k1 ≠ 6 → (k2 = 3 ∨ k2 = 6) → ∀ i, i < a2.length → nearR [.i (lg a2 i 0), .i (lg a2 i 1), .i x1, .i y1, .i x1, .i y1, .i r1] = nearB (lg a2 i 0) (lg a2 i 1) x1 y1 x1 y1 r1 ∧ nearE [.i (lg a2 i 0), .i (lg a2 i 1), .i x1, .i y1, .i x1, .i y1, .i r1] = 0 :=
    fun h1 h2 h i hi => near_two (D1 h1 h2).1 (polyB_pl (A2 h) hi) (by have := (D1 h1 h2).2; omega)
  have LA : (k2 = 3 ∨ k2 = 6) → 3 ≤ a2.length ∧ a2.length ≤ 24 := fun h => polyB_len (A2 h)
  clear A1 A2 D1 D2 g1 g2
  repeat' (first | (intro h; skip) | (refine And.intro ?_ ?_))
  all_goals first
    | omega
    | (refine T _ ?_; rw [H44 (by omega), decide_eq_true (by omega)])
    | (refine T _ ?_; rw [H44 (by omega), decide_eq_false (by omega)])
    | (refine T _ ?_; exact Hn4 (by omega) (by omega))
    | (rw [(EAA (by omega) (by omega)).1]; exact T _ (HAA (by omega) (by omega)))
    | (exact absurd (EAA (by omega) (by omega)).2 (by assumption))
    | (rw [(EAD (by omega) (by omega) (by omega)).1]; exact T _ (HAD (by omega) (by omega) (by omega) (by omega)))
    | (exact absurd (EAD (by omega) (by omega) (by omega)).2 (by assumption))
    | (rw [(EDD (by omega) (by omega) (by omega) (by omega)).1]; exact T _ (HDD (by omega) (by omega) (by omega) (by omega) (by omega) (by omega)))
    | (exact absurd (EDD (by omega) (by omega) (by omega) (by omega)).2 (by assumption))
    | (refine TT.sat_loop (fun v => ∃ i : Nat, v.i 0 = i ∧ i ≤ a2.length ∧ allD a2 x1 y1 r1 (a2.length - i) i = allD a2 x1 y1 r1 a2.length 0) (fun v => a2.length - (v.i 0).toNat) ⟨0, by simp [val_i, aget, E.ev], by omega, rfl⟩ (fun v hv => ?_)
       obtain ⟨i, i0, i1, i2⟩ := hv
       simp only [TT.sat_ret, TT.sat_ite, TT.sat_ob, TT.sat_next, TT.sat_stuck, put_i, put_b, put_d, put_fi, put_fb, put_fd, Ob.ok, B.ev, E.ev, X.ev, AL.ev, cmp_t, cmp_f, arEv, V.plain, V2.plain, S.plain, S0.plain, V.val, V2.val, S.val, S0.val, bV, iV, List.all_cons, List.all_nil, Bool.and_true, Bool.and_self, envOf_i, envOf_b, envOf_d, List.map_cons, List.map_nil, true_and, Bool.not_eq_true', Bool.not_eq_false', Bool.not_not, Bool.and_eq_true, and_f, cell_lg, cell_lb, cell_lr, cmpP, val_i, val_b, val_d, aget, Nat.reduceBEq, beq_self_eq_true, Bool.false_eq_true, if_true, if_false, Nat.reduceLT, Nat.reduceSub, Nat.sub_self, Nat.lt_irrefl, i0, ex1, ey1, er1, ea2, K78i13, K78b7]
       have hl := LA (by omega)
       refine ⟨fun hc => ?_, fun hc => ?_⟩
       · have hi : i < a2.length := by omega
         obtain ⟨f, hf⟩ : ∃ f, a2.length - i = f + 1 := ⟨a2.length - i - 1, by omega⟩
         have hf' : a2.length - (i + 1) = f := by omega
         rw [hf, allD] at i2
         obtain ⟨g1, g2⟩ := EDA (by omega) (by omega) (by omega) i hi
         rw [g1, g2, wrap_in ((i : Int) + 1) (by omega) (by omega)]
         refine ⟨by omega, by omega, fun _ => ⟨fun b => ?_, fun b => ⟨⟨i + 1, rfl, by omega, by rw [hf', ← i2, b]; rfl⟩, by omega⟩⟩, fun c => absurd rfl c⟩
         have hz : (!cmpEv BinOp.geq (i : Int) 0) = false := by
           have h : cmpEv BinOp.geq (i : Int) 0 = true := by
             rw [cmp_t]
             simp only [cmpP]
             omega
           rw [h]; rfl
         rw [hz]
         exact T _ (by rw [HDA (by omega) (by omega) (by omega) (by omega), ← i2, b]; rfl)
       · have h0 : a2.length - i = 0 := by omega
         rw [h0, allD] at i2
         exact T _ (by rw [HDA (by omega) (by omega) (by omega) (by omega), ← i2]))
end Go.Proofs.YtglepdhapakmbaaGreat
/- Chapter 07: the tree of the laws' head. -/
namespace Go.Proofs.YtglepdhapakmbaaGreat
open Go.RowKit
-- term trHead07: call Tryz.prog ctE6 (Lt.of []) 100 4 [] [] 0
def trHead07 : TT OpR :=
(.ret ((.v (.one (.z (.bool (.lit true))))), [], 42))
-- end trHead07
set_option maxRecDepth 100000 in
theorem trHead07_is : T.norm 0 (call Tryz.prog ctE6 (Lt.of []) 100 4 [] [] 0) TT.ret = trHead07 := by kernel_rfl
theorem trHead07_low : trHead07.low 1000 = true := by kernel_rfl
end Go.Proofs.YtglepdhapakmbaaGreat
/- Chapter 07: the laws' head is true. -/
namespace Go.Proofs.YtglepdhapakmbaaGreat
open Go.RowKit
theorem gHead07 : Gives Tryz.prog 4 [] (fun _ => .bool true) := by
  refine GivesIf.all (fn_gives K76 (by kernel_rfl) (fun ρ h => ctE6_ok (Sees.of h 122)) (by kernel_rfl) trHead07_is trHead07_low (by decide) (fun W vals ds hr _ => ?_))
  simp only [trHead07, TT.sat_ret, TT.sat_ite, TT.sat_ob, TT.sat_next, TT.sat_stuck, put_i, put_b, put_d, put_fi, put_fb, put_fd, Ob.ok, B.ev, E.ev, X.ev, AL.ev, cmp_t, cmp_f, arEv, V.plain, V2.plain, S.plain, S0.plain, V.val, V2.val, S.val, S0.val, bV, iV, List.all_cons, List.all_nil, Bool.and_true, Bool.and_self, envOf_i, envOf_b, envOf_d, List.map_cons, List.map_nil, true_and, Bool.not_eq_true', Bool.not_eq_false', Bool.not_not, Bool.and_eq_true, and_f, cell_lg, cell_lb, cell_lr, cmpP, val_i, val_b, val_d, aget, Nat.reduceBEq, beq_self_eq_true, Bool.false_eq_true, if_true, if_false, Nat.reduceLT, Nat.reduceSub, Nat.sub_self, Nat.lt_irrefl]
def cHead07 := ctD [] fun _ => .ret (bV (.lit true))
theorem cHead07_ok {ρ : Env} : CtOne Tryz.prog ρ 4 cHead07 :=
  ctD_ok gHead07 (fun _ => rfl) (fun _ => rfl)
end Go.Proofs.YtglepdhapakmbaaGreat
/- Chapter 07: feature.Same. -/
namespace Go.Proofs.YtglepdhapakmbaaGreat
open Go.RowKit
def eqC (r s : Rows) (i : Nat) : Nat → Bool
  | 0 => true
  | c + 1 => eqC r s i c && decide (lg r i c = lg s i c)
def eqN (c : Nat) (r s : Rows) : Nat → Nat → Bool
  | 0, _ => true
  | f + 1, i => eqC r s i c && eqN c r s f (i + 1)
def eqX (c : Nat) (r s : Rows) : Bool := decide (r.length = s.length) && eqN c r s r.length 0
def sameB (i1 k1 x1 y1 r1 : Int) (a1 : Rows) (d1 s1 : Int) (t1 : Rows) (i2 k2 x2 y2 r2 : Int) (a2 : Rows) (d2 s2 : Int) (t2 : Rows) : Bool :=
  decide ((i1 = i2 ∧ k1 = k2 ∧ x1 = x2 ∧ y1 = y2) ∧ r1 = r2 ∧ d1 = d2 ∧ s1 = s2) && (eqX 2 a1 a2 && eqX 6 t1 t2)
def sameL (ds : List D) : Bool := sameB (iAt ds 0) (iAt ds 1) (iAt ds 2) (iAt ds 3) (iAt ds 4) (rAt ds 5) (iAt ds 6) (iAt ds 7) (rAt ds 8) (iAt ds 9) (iAt ds 10) (iAt ds 11) (iAt ds 12) (iAt ds 13) (rAt ds 14) (iAt ds 15) (iAt ds 16) (rAt ds 17)
theorem eqC_iff {r s : Rows} {i : Nat} : ∀ c, eqC r s i c = true ↔ ∀ j, j < c → lg r i j = lg s i j
  | 0 => ⟨fun _ j h => (by omega), fun _ => rfl⟩
  | c + 1 => by
    rw [eqC, Bool.and_eq_true, eqC_iff c, decide_eq_true_eq]
    constructor
    · rintro ⟨h1, h2⟩ j hj
      by_cases e : j = c
      · subst e; exact h2
      · exact h1 j (by omega)
    · exact fun h => ⟨fun j hj => h j (by omega), h c (by omega)⟩
theorem reps_len7 {w : World} : ∀ {ks : List CK} {vs : List Value} {ds : List D}, CK.reps w ks vs ds → ds.length = ks.length
  | [], vs, ds, h => by
    unfold CK.reps at h
    obtain ⟨rfl, rfl⟩ := h
    rfl
  | k :: ks, vs, ds, h => by
    unfold CK.reps at h
    obtain ⟨v, vs', d, ds', rfl, rfl, h1, h2⟩ := h
    simp [reps_len7 h2]
theorem list_rep {w : World} {ks : List CK} {v : Value} {d : D} (h : CK.rep w (.sl ks) v d) : d.rows.length ≤ 281474976710656 := by
  rw [rep_sl] at h
  obtain ⟨r, rfl, a, n, c, _, hs, _⟩ := h
  have e1 := hs.len
  have e2 := hs.big
  show r.length ≤ _
  omega
theorem rows_len (W : World) (vals : List Value) (ds : List D) (sh : List Sh) (hr : repSh W (feat :: feat :: sh) vals ds) : ((rAt ds 5).length ≤ 281474976710656 ∧ (rAt ds 8).length ≤ 281474976710656) ∧ (rAt ds 14).length ≤ 281474976710656 ∧ (rAt ds 17).length ≤ 281474976710656 := by
  obtain ⟨v1, vs1, d1, ds1, rfl, rfl, ⟨u1, _, h1⟩, v2, vs2, d2, ds2, rfl, rfl, ⟨u2, _, h2⟩, _⟩ := hr
  have e1 : d1.length = 9 := reps_len7 h1
  have e2 : d2.length = 9 := reps_len7 h2
  obtain ⟨_, x5, _, p5, q5⟩ := reps_get (j := 5) h1 rfl
  obtain ⟨_, x8, _, p8, q8⟩ := reps_get (j := 8) h1 rfl
  obtain ⟨_, y5, _, r5, t5⟩ := reps_get (j := 5) h2 rfl
  obtain ⟨_, y8, _, r8, t8⟩ := reps_get (j := 8) h2 rfl
  have a5 : (d1 ++ (d2 ++ ds2))[5]? = some x5 := by rw [List.getElem?_append_left (by omega)]; exact p5
  have a8 : (d1 ++ (d2 ++ ds2))[8]? = some x8 := by rw [List.getElem?_append_left (by omega)]; exact p8
  have a14 : (d1 ++ (d2 ++ ds2))[14]? = some y5 := by rw [List.getElem?_append_right (by omega), e1, List.getElem?_append_left (by omega)]; exact r5
  have a17 : (d1 ++ (d2 ++ ds2))[17]? = some y8 := by rw [List.getElem?_append_right (by omega), e1, List.getElem?_append_left (by omega)]; exact r8
  have gd : ∀ (l : List D) (i : Nat) (d : D), l[i]? = some d → l.getD i (.i 0) = d := fun l i d h => by rw [List.getD_eq_getElem?_getD, h]; rfl
  unfold rAt
  rw [gd _ _ _ a5, gd _ _ _ a8, gd _ _ _ a14, gd _ _ _ a17]
  exact ⟨⟨list_rep q5, list_rep q8⟩, list_rep t5, list_rep t8⟩
set_option maxHeartbeats 1000000 in
theorem gFeSame : Gives Tryz.prog 9 [feat, feat] (fun ds => .bool (sameL ds)) := by
  refine GivesIf.all (fn_gives K78 (by kernel_rfl) (fun ρ h => ctE10_ok (Sees.of h 128)) (by kernel_rfl) trFeSame_is trFeSame_low (by decide) (fun W vals ds hr _ => ?_))
  obtain ⟨⟨n5, n8⟩, n14, n17⟩ := rows_len W vals ds _ hr
  simp only [trFeSame, TT.sat_ret, TT.sat_ite, TT.sat_ob, TT.sat_next, TT.sat_stuck, put_i, put_b, put_d, put_fi, put_fb, put_fd, Ob.ok, B.ev, E.ev, X.ev, AL.ev, cmp_t, cmp_f, arEv, V.plain, V2.plain, S.plain, S0.plain, V.val, V2.val, S.val, S0.val, bV, iV, List.all_cons, List.all_nil, Bool.and_true, Bool.and_self, envOf_i, envOf_b, envOf_d, List.map_cons, List.map_nil, true_and, Bool.not_eq_true', Bool.not_eq_false', Bool.not_not, Bool.and_eq_true, and_f, cell_lg, cell_lb, cell_lr, cmpP, val_i, val_b, val_d, aget, Nat.reduceBEq, beq_self_eq_true, Bool.false_eq_true, if_true, if_false, Nat.reduceLT, Nat.reduceSub, Nat.sub_self, Nat.lt_irrefl]
  have F : ∀ b, sameL ds = b → Value.bool b = Value.bool (sameL ds) := fun b h => by rw [h]
  have N : ¬ ((iAt ds 0 = iAt ds 9 ∧ iAt ds 1 = iAt ds 10 ∧ iAt ds 2 = iAt ds 11 ∧ iAt ds 3 = iAt ds 12) ∧ iAt ds 4 = iAt ds 13 ∧ iAt ds 6 = iAt ds 15 ∧ iAt ds 7 = iAt ds 16) → Value.bool false = Value.bool (sameL ds) := fun h => F _ (by rw [sameL, sameB, decide_eq_false h, Bool.false_and])
  refine ⟨fun h0 => ⟨fun h1 => ⟨fun h2 => ⟨fun h3 => ⟨fun h4 => ⟨fun h5 => ?_, fun h => N (by omega)⟩, fun h => N (by omega)⟩, fun h => N (by omega)⟩, fun h => N (by omega)⟩, fun h => N (by omega)⟩, fun h => N (by omega)⟩
  have hS : sameL ds = (eqX 2 (rAt ds 5) (rAt ds 14) && eqX 6 (rAt ds 8) (rAt ds 17)) := by
    rw [sameL, sameB, decide_eq_true (by omega), Bool.true_and]
  rw [hS]
  clear N F hS hr
  generalize e5 : rAt ds 5 = a at *
  generalize e14 : rAt ds 14 = b at *
  generalize e8 : rAt ds 8 = s at *
  generalize e17 : rAt ds 17 = t at *
  refine ⟨fun h => ?_, fun h => ?_⟩
  · rw [eqX, decide_eq_false (by omega)]; rfl
  have hab : a.length = b.length := by omega
  have hX : eqX 2 a b = eqN 2 a b a.length 0 := by rw [eqX, decide_eq_true hab]; rfl
  rw [hX]
  refine TT.sat_loop (fun v => ∃ i : Nat, v.i 0 = i ∧ i ≤ a.length ∧ eqN 2 a b (a.length - i) i = eqN 2 a b a.length 0) (fun v => a.length - (v.i 0).toNat)
    ⟨0, by simp [val_i, aget, E.ev], by omega, rfl⟩ (fun v hv => ?_)
  obtain ⟨i, i0, i1, i2⟩ := hv
  simp only [TT.sat_ret, TT.sat_ite, TT.sat_ob, TT.sat_next, TT.sat_stuck, put_i, put_b, put_d, put_fi, put_fb, put_fd, Ob.ok, B.ev, E.ev, X.ev, AL.ev, cmp_t, cmp_f, arEv, V.plain, V2.plain, S.plain, S0.plain, V.val, V2.val, S.val, S0.val, bV, iV, List.all_cons, List.all_nil, Bool.and_true, Bool.and_self, envOf_i, envOf_b, envOf_d, List.map_cons, List.map_nil, true_and, Bool.not_eq_true', Bool.not_eq_false', Bool.not_not, Bool.and_eq_true, and_f, cell_lg, cell_lb, cell_lr, cmpP, val_i, val_b, val_d, aget, Nat.reduceBEq, beq_self_eq_true, Bool.false_eq_true, if_true, if_false, Nat.reduceLT, Nat.reduceSub, Nat.sub_self, Nat.lt_irrefl, i0, e5, e14, e8, e17]
  refine ⟨fun hc => ?_, fun hc => ?_⟩
  · have hi : i < a.length := by omega
    obtain ⟨f, hf⟩ : ∃ f, a.length - i = f + 1 := ⟨a.length - i - 1, by omega⟩
    have hf' : a.length - (i + 1) = f := by omega
    rw [hf, eqN] at i2
    rw [wrap_in ((i : Int) + 1) (by omega) (by omega)]
    refine ⟨by omega, by omega, by omega, by omega, fun q => ?_, fun q => ⟨⟨i + 1, rfl, by omega, ?_⟩, by omega⟩⟩
    · rw [← i2, show eqC a b i 2 = false by rw [← Bool.not_eq_true, eqC_iff]; exact fun g => q ⟨g 0 (by omega), g 1 (by omega)⟩]; rfl
    · rw [hf', ← i2, show eqC a b i 2 = true by
        simp only [eqC, decide_eq_true_eq, Bool.and_eq_true, Bool.true_and]
        exact q]; rfl
  · have h0 : a.length - i = 0 := by omega
    rw [h0, eqN] at i2
    rw [← i2, Bool.true_and]
    refine ⟨fun h => ?_, fun h => ?_⟩
    · rw [eqX, decide_eq_false (by omega)]; rfl
    have hst : s.length = t.length := by omega
    have hX : eqX 6 s t = eqN 6 s t s.length 0 := by rw [eqX, decide_eq_true hst]; rfl
    rw [hX]
    refine TT.sat_loop (fun v => ∃ i : Nat, v.i 0 = i ∧ i ≤ s.length ∧ eqN 6 s t (s.length - i) i = eqN 6 s t s.length 0) (fun v => s.length - (v.i 0).toNat)
      ⟨0, by simp [val_i, aget, E.ev], by omega, rfl⟩ (fun u hu => ?_)
    obtain ⟨j, j0, j1, j2⟩ := hu
    simp only [TT.sat_ret, TT.sat_ite, TT.sat_ob, TT.sat_next, TT.sat_stuck, put_i, put_b, put_d, put_fi, put_fb, put_fd, Ob.ok, B.ev, E.ev, X.ev, AL.ev, cmp_t, cmp_f, arEv, V.plain, V2.plain, S.plain, S0.plain, V.val, V2.val, S.val, S0.val, bV, iV, List.all_cons, List.all_nil, Bool.and_true, Bool.and_self, envOf_i, envOf_b, envOf_d, List.map_cons, List.map_nil, true_and, Bool.not_eq_true', Bool.not_eq_false', Bool.not_not, Bool.and_eq_true, and_f, cell_lg, cell_lb, cell_lr, cmpP, val_i, val_b, val_d, aget, Nat.reduceBEq, beq_self_eq_true, Bool.false_eq_true, if_true, if_false, Nat.reduceLT, Nat.reduceSub, Nat.sub_self, Nat.lt_irrefl, j0, e5, e14, e8, e17]
    refine ⟨fun hc => ?_, fun hc => ?_⟩
    · have hj : j < s.length := by omega
      obtain ⟨f, hf⟩ : ∃ f, s.length - j = f + 1 := ⟨s.length - j - 1, by omega⟩
      have hf' : s.length - (j + 1) = f := by omega
      rw [hf, eqN] at j2
      rw [wrap_in ((j : Int) + 1) (by omega) (by omega)]
      refine ⟨by omega, by omega, by omega, by omega, fun q => ?_, fun q => ⟨⟨j + 1, rfl, by omega, ?_⟩, by omega⟩⟩
      · rw [← j2, show eqC s t j 6 = false by rw [← Bool.not_eq_true, eqC_iff]; exact fun g => q ⟨⟨g 0 (by omega), g 1 (by omega)⟩, ⟨g 2 (by omega), g 3 (by omega)⟩, g 4 (by omega), g 5 (by omega)⟩]; rfl
      · rw [hf', ← j2, show eqC s t j 6 = true by
          simp only [eqC, decide_eq_true_eq, Bool.and_eq_true, Bool.true_and]
          omega]; rfl
    · have h0 : s.length - j = 0 := by omega
      rw [h0, eqN] at j2
      rw [← j2]
def K79 : Interp where
  fi n l := K78.fi n l
  fb n l := match n with | 128 => feStR l | 129 => sameL l | n => K78.fb n l
  fd _ _ := []
theorem K79_K78 {ρ : Env} (h : Sees ρ K79 132) : Sees ρ K78 128 := h.trans (by decide) fun n l hn => by
  refine ⟨?_, ?_⟩
  ·
    rfl
  ·
    simp only [K79]
    split <;> first | omega | rfl
def cFeStands := ctD [feat, feat] fun al => .ret (.tup [.one (sBF 128 feStR al), .one (sIF 119 feE al)])
theorem cFeStands_ok {ρ : Env} (h : Sees ρ K79 132) : CtOne Tryz.prog ρ 15 cFeStands :=
  ctD_ok gFeStands (fun _ => rfl) (fun al => by simp only [V.val, V2.val, S.val, S0.val, sIF, sBF, List.map_cons, List.map_nil, bF_ev (s := 128) (f := feStR) (fun l => by rw [(h 128 l (by decide)).2]; simp only [K79, K78, K77, K76, K75, K74, K73, K72, K71, KI, KH, KG, KF, KE, KD, KC, KB, KA, K9, K8, K7, K6, K5, K]), iF_ev (s := 119) (f := feE) (fun l => by rw [(h 119 l (by decide)).1]; simp only [K79, K78, K77, K76, K75, K74, K73, K72, K71, KI, KH, KG, KF, KE, KD, KC, KB, KA, K9, K8, K7, K6, K5, K])]; try rfl)
def cFeSame := ctD [feat, feat] fun al => .ret (bV (bF 129 sameL al))
theorem cFeSame_ok {ρ : Env} (h : Sees ρ K79 132) : CtOne Tryz.prog ρ 9 cFeSame :=
  ctD_ok gFeSame (fun _ => rfl) (fun al => by simp only [iV, bV, V.s0, V.val, V2.val, S.val, S0.val, bF_ev (s := 129) (f := sameL) (fun l => by rw [(h 129 l (by decide)).2]; simp only [K79, K78, K77, K76, K75, K74, K73, K72, K71, KI, KH, KG, KF, KE, KD, KC, KB, KA, K9, K8, K7, K6, K5, K])]; try rfl)
def ctE11 : Ct := (4, cHead07) :: (15, cFeStands) :: (9, cFeSame) :: ctE10
theorem ctE11_ok {ρ : Env} (h : Sees ρ K79 132) : CtOk Tryz.prog ρ ctE11 := .cons cHead07_ok <| .cons (cFeStands_ok h) <| .cons (cFeSame_ok h) (ctE10_ok (K79_K78 h))
end Go.Proofs.YtglepdhapakmbaaGreat
/- Chapter 07: the tree of feature.Shown. -/
namespace Go.Proofs.YtglepdhapakmbaaGreat
open Go.RowKit
def featK : List CK := [.int .i64, .int .i64, .int .i64, .int .i64, .int .i64, .sl ptK, .int .i64, .int .i64, .sl secK]
def feats : Sh := .one (.sl featK)
-- term trList: call Tryz.prog ctE11 (Lt.of []) 100 7 (symArgs 0 [feats]) [] 0
def trList : TT OpR :=
(.loop 0 1000 ⟨[(0, (.lit 0)), (1, (.lit 0))], [], []⟩
 (.ite (.cmp .lss (.var 1001) (.len (.var 0)))
 (.ob (.tru (.cmp .leq (.lit 0) (.var 1001)))
 (.ob (.tru (.cmp .lss (.var 1001) (.len (.var 0))))
 (.ite (.not (.fn 76 (.i (.rd (.var 0) (.var 1001) 0) (.i (.rd (.var 0) (.var 1001) 1) (.i (.rd (.var 0) (.var 1001) 2) (.i (.rd (.var 0) (.var 1001) 3) (.i (.rd (.var 0) (.var 1001) 4) (.x (.rd (.var 0) (.var 1001) 5) (.i (.rd (.var 0) (.var 1001) 6) (.i (.rd (.var 0) (.var 1001) 7) (.x (.rd (.var 0) (.var 1001) 8) .nil)))))))))))
 (.ret ((.v (.one (.z (.bool (.lit false))))), [], 2))
 (.ite (.cmp .leq (.rd (.var 0) (.var 1001) 0) (.var 1000))
 (.ret ((.v (.one (.z (.bool (.lit false))))), [], 2))
 (.next 0 ⟨[(0, (.rd (.var 0) (.var 1001) 0)), (1, (.ar .add .i64 (.var 1001) (.lit 1)))], [], []⟩)))))
 (.ret ((.v (.one (.z (.bool (.cmp .leq (.len (.var 0)) (.lit 300)))))), [], 2))))
-- end trList
def trList_h : List (Nat × St) := [
(0, ⟨([(.v (.one (.z (.ext [(.int .i64), (.int .i64), (.int .i64), (.int .i64), (.int .i64), (.sl [(.int .i64), (.int .i64)]), (.int .i64), (.int .i64), (.sl [(.int .i64), (.int .i64), (.int .i64), (.int .i64), (.int .i64), (.int .i64)])] (.var 0) false)))), (.v (.one (.z .any))), (.v (.one (.z (.bool (.lit false))))), (.v (.one (.z (.int .i64 (.var 1000))))), (.v (.one (.z .any))), (.v (.one (.z .any))), (.v (.one (.z (.ext [(.int .i64), (.int .i64), (.int .i64), (.int .i64), (.int .i64), (.sl [(.int .i64), (.int .i64)]), (.int .i64), (.int .i64), (.sl [(.int .i64), (.int .i64), (.int .i64), (.int .i64), (.int .i64), (.int .i64)])] (.var 0) false)))), (.v (.one (.z (.int .i64 (.len (.var 0)))))), (.v (.one (.z (.int .i64 (.var 1001)))))] ++ List.replicate 18 V.any), [], 1, []⟩)]
def trList_j : List (FuncId × Nat × Nat × St) := [
]
set_option maxRecDepth 100000 in
theorem trList_is : T.norm 0 (call Tryz.prog ctE11 ⟨Lt.un (Lt.of []), trList_h, trList_j⟩ 100 7 (symArgs 0 [feats]) [] 0) TT.ret = trList := by kernel_rfl
theorem trList_low : trList.low 1000 = true := by kernel_rfl
-- term trFeShown: call Tryz.prog ctE11 (Lt.of []) 100 19 (symArgs 0 [feats, pt]) [] 0
def trFeShown : TT OpR :=
(.loop 0 2000 ⟨[(0, (.lit 0)), (1, (.lit 0))], [], []⟩
 (.ite (.cmp .lss (.var 2001) (.len (.var 0)))
 (.ob (.tru (.cmp .leq (.lit 0) (.var 2001)))
 (.ob (.tru (.cmp .lss (.var 2001) (.len (.var 0))))
 (.ite (.not (.fn 76 (.i (.rd (.var 0) (.var 2001) 0) (.i (.rd (.var 0) (.var 2001) 1) (.i (.rd (.var 0) (.var 2001) 2) (.i (.rd (.var 0) (.var 2001) 3) (.i (.rd (.var 0) (.var 2001) 4) (.x (.rd (.var 0) (.var 2001) 5) (.i (.rd (.var 0) (.var 2001) 6) (.i (.rd (.var 0) (.var 2001) 7) (.x (.rd (.var 0) (.var 2001) 8) .nil)))))))))))
 (.ret ((.tup [(.one (.z (.int .i64 (.lit 0)))), (.one (.z (.int .i64 (.lit 1))))]), [], 3))
 (.ite (.cmp .leq (.rd (.var 0) (.var 2001) 0) (.var 2000))
 (.ret ((.tup [(.one (.z (.int .i64 (.lit 0)))), (.one (.z (.int .i64 (.lit 1))))]), [], 3))
 (.next 0 ⟨[(0, (.rd (.var 0) (.var 2001) 0)), (1, (.ar .add .i64 (.var 2001) (.lit 1)))], [], []⟩)))))
 (.ite (.not (.cmp .leq (.len (.var 0)) (.lit 300)))
 (.ret ((.tup [(.one (.z (.int .i64 (.lit 0)))), (.one (.z (.int .i64 (.lit 1))))]), [], 3))
 (.ite (.not (.fn 3 (.i (.var 1) (.i (.var 2) .nil))))
 (.ret ((.tup [(.one (.z (.int .i64 (.lit 0)))), (.one (.z (.int .i64 (.lit 1))))]), [], 3))
 (.loop 1 4000 ⟨[(1, (.lit 100000)), (0, (.lit 0))], [], []⟩
 (.ite (.cmp .lss (.var 4000) (.len (.var 0)))
 (.ob (.tru (.cmp .leq (.lit 0) (.var 4000)))
 (.ob (.tru (.cmp .lss (.var 4000) (.len (.var 0))))
 (.ite (.cmp .lss (.rd (.var 0) (.var 4000) 6) (.var 4001))
 (.ite (.cmp .eql (.rd (.var 0) (.var 4000) 1) (.lit 4))
 (.next 1 ⟨[(1, (.var 4001)), (0, (.ar .add .i64 (.var 4000) (.lit 1)))], [], []⟩)
 (.ite (.cmp .eql (.rd (.var 0) (.var 4000) 1) (.lit 3))
 (.ite (.cmp .eql (.rd (.var 0) (.var 4000) 1) (.lit 3))
 (.ite (.cmp .eql (.fn 71 (.i (.var 1) (.i (.var 2) (.x (.rd (.var 0) (.var 4000) 5) .nil)))) (.lit 0))
 (.ite (.cmp .geq (.fn 70 (.i (.var 1) (.i (.var 2) (.x (.rd (.var 0) (.var 4000) 5) .nil)))) (.lit 0))
 (.next 1 ⟨[(1, (.rd (.var 0) (.var 4000) 6)), (0, (.ar .add .i64 (.var 4000) (.lit 1)))], [], []⟩)
 (.next 1 ⟨[(1, (.var 4001)), (0, (.ar .add .i64 (.var 4000) (.lit 1)))], [], []⟩))
 (.next 1 ⟨[(1, (.var 4001)), (0, (.ar .add .i64 (.var 4000) (.lit 1)))], [], []⟩))
 (.ite (.cmp .eql (.fn 13 (.i (.var 1) (.i (.var 2) (.i (.rd (.var 0) (.var 4000) 2) (.i (.rd (.var 0) (.var 4000) 3) (.i (.rd (.var 0) (.var 4000) 2) (.i (.rd (.var 0) (.var 4000) 3) (.i (.rd (.var 0) (.var 4000) 4) .nil)))))))) (.lit 0))
 (.ite (.fn 7 (.i (.var 1) (.i (.var 2) (.i (.rd (.var 0) (.var 4000) 2) (.i (.rd (.var 0) (.var 4000) 3) (.i (.rd (.var 0) (.var 4000) 2) (.i (.rd (.var 0) (.var 4000) 3) (.i (.rd (.var 0) (.var 4000) 4) .nil))))))))
 (.next 1 ⟨[(1, (.rd (.var 0) (.var 4000) 6)), (0, (.ar .add .i64 (.var 4000) (.lit 1)))], [], []⟩)
 (.next 1 ⟨[(1, (.var 4001)), (0, (.ar .add .i64 (.var 4000) (.lit 1)))], [], []⟩))
 (.next 1 ⟨[(1, (.var 4001)), (0, (.ar .add .i64 (.var 4000) (.lit 1)))], [], []⟩)))
 (.ite (.cmp .eql (.rd (.var 0) (.var 4000) 1) (.lit 6))
 (.ite (.cmp .eql (.fn 71 (.i (.var 1) (.i (.var 2) (.x (.rd (.var 0) (.var 4000) 5) .nil)))) (.lit 0))
 (.ite (.cmp .geq (.fn 70 (.i (.var 1) (.i (.var 2) (.x (.rd (.var 0) (.var 4000) 5) .nil)))) (.lit 0))
 (.next 1 ⟨[(1, (.rd (.var 0) (.var 4000) 6)), (0, (.ar .add .i64 (.var 4000) (.lit 1)))], [], []⟩)
 (.next 1 ⟨[(1, (.var 4001)), (0, (.ar .add .i64 (.var 4000) (.lit 1)))], [], []⟩))
 (.next 1 ⟨[(1, (.var 4001)), (0, (.ar .add .i64 (.var 4000) (.lit 1)))], [], []⟩))
 (.ite (.cmp .eql (.fn 13 (.i (.var 1) (.i (.var 2) (.i (.rd (.var 0) (.var 4000) 2) (.i (.rd (.var 0) (.var 4000) 3) (.i (.rd (.var 0) (.var 4000) 2) (.i (.rd (.var 0) (.var 4000) 3) (.i (.rd (.var 0) (.var 4000) 4) .nil)))))))) (.lit 0))
 (.ite (.fn 7 (.i (.var 1) (.i (.var 2) (.i (.rd (.var 0) (.var 4000) 2) (.i (.rd (.var 0) (.var 4000) 3) (.i (.rd (.var 0) (.var 4000) 2) (.i (.rd (.var 0) (.var 4000) 3) (.i (.rd (.var 0) (.var 4000) 4) .nil))))))))
 (.next 1 ⟨[(1, (.rd (.var 0) (.var 4000) 6)), (0, (.ar .add .i64 (.var 4000) (.lit 1)))], [], []⟩)
 (.next 1 ⟨[(1, (.var 4001)), (0, (.ar .add .i64 (.var 4000) (.lit 1)))], [], []⟩))
 (.next 1 ⟨[(1, (.var 4001)), (0, (.ar .add .i64 (.var 4000) (.lit 1)))], [], []⟩)))))
 (.next 1 ⟨[(1, (.var 4001)), (0, (.ar .add .i64 (.var 4000) (.lit 1)))], [], []⟩))))
 (.ret ((.tup [(.one (.z (.int .i64 (.var 4001)))), (.one (.z (.int .i64 (.lit 0))))]), [], 8))))))))
-- end trFeShown
def trFeShown_h : List (Nat × St) := [
(1, ⟨([(.v (.one (.z (.ext [(.int .i64), (.int .i64), (.int .i64), (.int .i64), (.int .i64), (.sl [(.int .i64), (.int .i64)]), (.int .i64), (.int .i64), (.sl [(.int .i64), (.int .i64), (.int .i64), (.int .i64), (.int .i64), (.int .i64)])] (.var 0) false)))), (.v (.one (.z .any))), (.v (.one (.z (.bool (.lit false))))), (.v (.one (.z (.int .i64 (.var 2000))))), (.v (.one (.z .any))), (.v (.one (.z .any))), (.v (.one (.z (.ext [(.int .i64), (.int .i64), (.int .i64), (.int .i64), (.int .i64), (.sl [(.int .i64), (.int .i64)]), (.int .i64), (.int .i64), (.sl [(.int .i64), (.int .i64), (.int .i64), (.int .i64), (.int .i64), (.int .i64)])] (.var 0) false)))), (.v (.one (.z (.int .i64 (.len (.var 0)))))), (.v (.one (.z (.int .i64 (.var 2001)))))] ++ List.replicate 18 V.any), [(0, (.cells 23 [(.z (.int .i64 (.var 1))), (.z (.int .i64 (.var 2)))]))], 2, []⟩),
(3, ⟨([(.v (.one (.z (.ext [(.int .i64), (.int .i64), (.int .i64), (.int .i64), (.int .i64), (.sl [(.int .i64), (.int .i64)]), (.int .i64), (.int .i64), (.sl [(.int .i64), (.int .i64), (.int .i64), (.int .i64), (.int .i64), (.int .i64)])] (.var 0) false)))), (.v (.agg [(.z (.int .i64 (.var 1))), (.z (.int .i64 (.var 2)))])), (.v (.one (.z .any))), (.v (.one (.z (.ptr 0 0)))), (.v (.one (.z (.int .i64 (.lit 0))))), (.v (.one (.z (.int .i64 (.lit 0))))), (.v (.one (.z (.int .i64 (.var 4001))))), (.v (.one (.z .any))), (.v (.one (.z .any))), (.v (.one (.z (.ext [(.int .i64), (.int .i64), (.int .i64), (.int .i64), (.int .i64), (.sl [(.int .i64), (.int .i64)]), (.int .i64), (.int .i64), (.sl [(.int .i64), (.int .i64), (.int .i64), (.int .i64), (.int .i64), (.int .i64)])] (.var 0) false)))), (.v (.one (.z (.bool (.cmp .leq (.len (.var 0)) (.lit 300)))))), (.v (.one (.z (.bool (.not (.cmp .leq (.len (.var 0)) (.lit 300))))))), (.v (.one (.z (.bool (.lit false))))), (.v (.agg [(.z (.int .i64 (.var 1))), (.z (.int .i64 (.var 2)))])), (.v (.one (.z (.bool (.fn 3 (.i (.var 1) (.i (.var 2) .nil))))))), (.v (.one (.z (.bool (.not (.fn 3 (.i (.var 1) (.i (.var 2) .nil)))))))), (.v (.one (.z (.bool (.not (.fn 3 (.i (.var 1) (.i (.var 2) .nil)))))))), (.v (.one (.z (.ext [(.int .i64), (.int .i64), (.int .i64), (.int .i64), (.int .i64), (.sl [(.int .i64), (.int .i64)]), (.int .i64), (.int .i64), (.sl [(.int .i64), (.int .i64), (.int .i64), (.int .i64), (.int .i64), (.int .i64)])] (.var 0) false)))), (.v (.one (.z (.int .i64 (.len (.var 0)))))), (.v (.one (.z (.int .i64 (.var 4000)))))] ++ List.replicate 17 V.any), [(0, (.cells 23 [(.z (.int .i64 (.var 1))), (.z (.int .i64 (.var 2)))]))], 4, []⟩)]
def trFeShown_j : List (FuncId × Nat × Nat × St) := [
]
set_option maxRecDepth 100000 in
theorem trFeShown_is : T.norm 0 (call Tryz.prog ctE11 ⟨Lt.un (Lt.of []), trFeShown_h, trFeShown_j⟩ 100 19 (symArgs 0 [feats, pt]) [] 0) TT.ret = trFeShown := by kernel_rfl
theorem trFeShown_low : trFeShown.low 1000 = true := by kernel_rfl
end Go.Proofs.YtglepdhapakmbaaGreat
/- Chapter 07: feature.List, feature.Shown. -/
namespace Go.Proofs.YtglepdhapakmbaaGreat
open Go.RowKit
def featRow (r : Rows) (i : Nat) : Bool := featB (lg r i 0) (lg r i 1) (lg r i 2) (lg r i 3) (lg r i 4) (lr r i 5) (lg r i 6) (lg r i 7) (lr r i 8)
def lisN (r : Rows) : Nat → Nat → Int → Bool
  | 0, _, _ => true
  | f + 1, i, last => (featRow r i && decide (last < lg r i 0)) && lisN r f (i + 1) (lg r i 0)
def listB (r : Rows) : Bool := lisN r r.length 0 0 && decide (r.length ≤ 300)
def listL (ds : List D) : Bool := listB (rAt ds 0)
def covRow (r : Rows) (i : Nat) (px py : Int) : Bool := covX (lg r i 1) (lg r i 2) (lg r i 3) (lg r i 4) (lr r i 5) px py
def shoN (r : Rows) (px py : Int) : Nat → Nat → Int → Int
  | 0, _, m => m
  | f + 1, i, m => shoN r px py f (i + 1) (if lg r i 6 < m ∧ covRow r i px py = true then lg r i 6 else m)
def shownO (ds : List D) : Bool := listB (rAt ds 0) && placeB (iAt ds 1) (iAt ds 2)
def shownR (ds : List D) : Int := if shownO ds then shoN (rAt ds 0) (iAt ds 1) (iAt ds 2) (rAt ds 0).length 0 100000 else 0
def shownE (ds : List D) : Int := if shownO ds then 0 else 1
theorem feats_len {W : World} {vals : List Value} {ds : List D} {sh : List Sh} (h : repSh W (feats :: sh) vals ds) : (rAt ds 0).length ≤ 281474976710656 := by
  obtain ⟨v, vs', d, ds', rfl, rfl, ⟨d, rfl, h⟩, _⟩ := h
  rw [rep_sl] at h
  obtain ⟨r, rfl, a, n, c, _, hs, _⟩ := h
  have e1 := hs.len
  have e2 := hs.big
  show r.length ≤ _
  omega
theorem K79b76 (W : World) (ds l : List D) : (envOf K79 W ds).fb 76 l = featL l := by simp only [envOf, K79, K78, K77, K76, K75, K74, K73, K72, K71, KI, KH, KG, KF, KE, KD, KC, KB, KA, K9, K8, K7, K6, K5, K]
theorem K79b3 (W : World) (ds l : List D) : (envOf K79 W ds).fb 3 l = placeL l := by simp only [envOf, K79, K78, K77, K76, K75, K74, K73, K72, K71, KI, KH, KG, KF, KE, KD, KC, KB, KA, K9, K8, K7, K6, K5, K]
theorem K79i70 (W : World) (ds l : List D) : (envOf K79 W ds).fi 70 l = pinR l := by simp only [envOf, K79, K78, K77, K76, K75, K74, K73, K72, K71, KI, KH, KG, KF, KE, KD, KC, KB, KA, K9, K8, K7, K6, K5, K]
theorem K79i71 (W : World) (ds l : List D) : (envOf K79 W ds).fi 71 l = pinE l := by simp only [envOf, K79, K78, K77, K76, K75, K74, K73, K72, K71, KI, KH, KG, KF, KE, KD, KC, KB, KA, K9, K8, K7, K6, K5, K]
theorem K79i13 (W : World) (ds l : List D) : (envOf K79 W ds).fi 13 l = nearE l := by simp only [envOf, K79, K78, K77, K76, K75, K74, K73, K72, K71, KI, KH, KG, KF, KE, KD, KC, KB, KA, K9, K8, K7, K6, K5, K]
theorem K79b7 (W : World) (ds l : List D) : (envOf K79 W ds).fb 7 l = nearR l := by simp only [envOf, K79, K78, K77, K76, K75, K74, K73, K72, K71, KI, KH, KG, KF, KE, KD, KC, KB, KA, K9, K8, K7, K6, K5, K]
theorem featRow_eq (r : Rows) (i : Nat) : featB (lg r i 0) (lg r i 1) (lg r i 2) (lg r i 3) (lg r i 4) (lr r i 5) (lg r i 6) (lg r i 7) (lr r i 8) = featRow r i := rfl
set_option maxHeartbeats 2000000 in
theorem gFeShown : Gives Tryz.prog 19 [feats, pt] (fun ds => .tuple #[.int .i64 (shownR ds), .int .i64 (shownE ds)]) := by
  refine GivesIf.all (fn_gives K79 (by kernel_rfl) (fun ρ h => ctE11_ok (Sees.of h 132)) (by kernel_rfl) trFeShown_is trFeShown_low (by decide) (fun W vals ds hr _ => ?_))
  have hlen := feats_len hr
  simp only [trFeShown]
  have F : shownO ds = false → Value.tuple #[.int .i64 0, .int .i64 1] = Value.tuple #[.int .i64 (shownR ds), .int .i64 (shownE ds)] := fun h => by simp [shownR, shownE, h]
  have T : shownO ds = true → ∀ m, shoN (rAt ds 0) (iAt ds 1) (iAt ds 2) (rAt ds 0).length 0 100000 = m → Value.tuple #[.int .i64 m, .int .i64 0] = Value.tuple #[.int .i64 (shownR ds), .int .i64 (shownE ds)] := fun h m h' => by simp [shownR, shownE, h, h']
  have hO : shownO ds = (listB (rAt ds 0) && placeB (iAt ds 1) (iAt ds 2)) := rfl
  clear hr
  generalize e0 : rAt ds 0 = r at *
  generalize e1 : iAt ds 1 = px at *
  generalize e2 : iAt ds 2 = py at *
  refine TT.sat_loop (fun v => ∃ i : Nat, v.i 1 = i ∧ i ≤ r.length ∧ (lisN r (r.length - i) i (v.i 0) && decide (r.length ≤ 300)) = listB r) (fun v => r.length - (v.i 1).toNat)
    ⟨0, by simp [val_i, aget, E.ev], by omega, rfl⟩ (fun v hv => ?_)
  obtain ⟨i, i0, i1, i2⟩ := hv
  simp only [TT.sat_ret, TT.sat_ite, TT.sat_ob, TT.sat_next, TT.sat_stuck, put_i, put_b, put_d, put_fi, put_fb, put_fd, Ob.ok, B.ev, E.ev, X.ev, AL.ev, cmp_t, cmp_f, arEv, V.plain, V2.plain, S.plain, S0.plain, V.val, V2.val, S.val, S0.val, bV, iV, List.all_cons, List.all_nil, Bool.and_true, Bool.and_self, envOf_i, envOf_b, envOf_d, List.map_cons, List.map_nil, true_and, Bool.not_eq_true', Bool.not_eq_false', Bool.not_not, Bool.and_eq_true, and_f, cell_lg, cell_lb, cell_lr, cmpP, val_i, val_b, val_d, aget, Nat.reduceBEq, beq_self_eq_true, Bool.false_eq_true, if_true, if_false, Nat.reduceLT, Nat.reduceSub, Nat.sub_self, Nat.lt_irrefl, i0, e0, e1, e2, K79b76, K79b3, feat_nine, place_two, featRow_eq]
  refine ⟨fun hc => ?_, fun hc => ?_⟩
  · have hi : i < r.length := by omega
    obtain ⟨f, hf⟩ : ∃ f, r.length - i = f + 1 := ⟨r.length - i - 1, by omega⟩
    have hf' : r.length - (i + 1) = f := by omega
    rw [hf, lisN] at i2
    rw [wrap_in ((i : Int) + 1) (by omega) (by omega)]
    refine ⟨by omega, by omega, fun h => F ?_, fun h => ⟨fun g => F ?_, fun g => ⟨⟨i + 1, rfl, by omega, ?_⟩, by omega⟩⟩⟩
    · rw [hO, ← i2, h]; rfl
    · rw [hO, ← i2, h, decide_eq_false (by omega)]; rfl
    · rw [hf', ← i2, h, decide_eq_true (p := v.i 0 < lg r i 0) (by omega)]; rfl
  · have h0 : r.length - i = 0 := by omega
    rw [h0, lisN, Bool.true_and] at i2
    refine ⟨fun h => F ?_, fun h => ⟨fun g => F ?_, fun g => ?_⟩⟩
    · rw [hO, ← i2, decide_eq_false (by omega)]; rfl
    · rw [hO, g, Bool.and_false]
    have hO' : shownO ds = true := by rw [hO, ← i2, g, decide_eq_true (by omega)]; rfl
    replace T := T hO'
    clear F hO hO' i2
    refine TT.sat_loop (fun v => ∃ i : Nat, v.i 0 = i ∧ i ≤ r.length ∧ shoN r px py (r.length - i) i (v.i 1) = shoN r px py r.length 0 100000) (fun v => r.length - (v.i 0).toNat)
      ⟨0, by simp [val_i, aget, E.ev], by omega, rfl⟩ (fun u hu => ?_)
    obtain ⟨j, j0, j1, j2⟩ := hu
    simp only [TT.sat_ret, TT.sat_ite, TT.sat_ob, TT.sat_next, TT.sat_stuck, put_i, put_b, put_d, put_fi, put_fb, put_fd, Ob.ok, B.ev, E.ev, X.ev, AL.ev, cmp_t, cmp_f, arEv, V.plain, V2.plain, S.plain, S0.plain, V.val, V2.val, S.val, S0.val, bV, iV, List.all_cons, List.all_nil, Bool.and_true, Bool.and_self, envOf_i, envOf_b, envOf_d, List.map_cons, List.map_nil, true_and, Bool.not_eq_true', Bool.not_eq_false', Bool.not_not, Bool.and_eq_true, and_f, cell_lg, cell_lb, cell_lr, cmpP, val_i, val_b, val_d, aget, Nat.reduceBEq, beq_self_eq_true, Bool.false_eq_true, if_true, if_false, Nat.reduceLT, Nat.reduceSub, Nat.sub_self, Nat.lt_irrefl, j0, e0, e1, e2, K79i70, K79i71, K79i13, K79b7]
    refine ⟨fun hc => ?_, fun hc => ?_⟩
    · have hj : j < r.length := by omega
      obtain ⟨f, hf⟩ : ∃ f, r.length - j = f + 1 := ⟨r.length - j - 1, by omega⟩
      have hf' : r.length - (j + 1) = f := by omega
      rw [hf, shoN] at j2
      have hw : IntKind.i64.wrap ((j : Int) + 1) = (j : Int) + 1 := wrap_in _ (by omega) (by omega)
      simp only [hw]
      have N : ∀ m, (if lg r j 6 < u.i 1 ∧ covRow r j px py = true then lg r j 6 else u.i 1) = m → ∃ i : Nat, (j : Int) + 1 = i ∧ i ≤ r.length ∧ shoN r px py (r.length - i) i m = shoN r px py r.length 0 100000 :=
        fun m h => ⟨j + 1, rfl, by omega, by rw [hf', ← j2, h]⟩
      have hm : r.length - ((j : Int) + 1).toNat < r.length - (j : Int).toNat := by omega
      have C4 : lg r j 1 = 4 → covRow r j px py = false := fun h => by unfold covRow covX; rw [if_pos h]
      have CA : (lg r j 1 = 3 ∨ lg r j 1 = 6) → covRow r j px py = decide (pinE [.i px, .i py, .l (lr r j 5)] = 0 ∧ 0 ≤ pinR [.i px, .i py, .l (lr r j 5)]) := fun h => by unfold covRow covX; rw [if_neg (by omega), if_pos h]
      have CD : lg r j 1 ≠ 4 → lg r j 1 ≠ 3 → lg r j 1 ≠ 6 → covRow r j px py = (decide (nearE [.i px, .i py, .i (lg r j 2), .i (lg r j 3), .i (lg r j 2), .i (lg r j 3), .i (lg r j 4)] = 0) && nearR [.i px, .i py, .i (lg r j 2), .i (lg r j 3), .i (lg r j 2), .i (lg r j 3), .i (lg r j 4)]) := fun h1 h2 h3 => by unfold covRow covX; rw [if_neg h1, if_neg (by omega)]
      refine ⟨by omega, by omega, ?_⟩
      clear hc hf hf' j2 T e0 e1 e2
      repeat' (first | (intro h; skip) | (refine And.intro ?_ ?_))
      all_goals first
        | exact hm
        | omega
        | (refine N _ (if_neg ?_); omega)
        | (refine N _ (if_neg ?_); rw [C4 (by omega)]; simp)
        | (refine N _ (if_neg ?_); rw [CA (by omega), decide_eq_true_eq]; omega)
        | (refine N _ (if_pos ⟨by omega, ?_⟩); rw [CA (by omega), decide_eq_true_eq]; omega)
        | (refine N _ (if_pos ⟨by omega, ?_⟩); rw [CD (by omega) (by omega) (by omega)]; simp [*]; done)
        | (refine N _ (if_neg (fun q => ?_)); have q2 := q.2; rw [CD (by omega) (by omega) (by omega), Bool.and_eq_true, decide_eq_true_eq] at q2; simp_all; done)
    · have h0 : r.length - j = 0 := by omega
      rw [h0, shoN] at j2
      exact T _ j2.symm
def K80 : Interp where
  fi n l := match n with | 132 => shownR l | 133 => shownE l | n => K79.fi n l
  fb n l := K79.fb n l
  fd _ _ := []
theorem K80_K79 {ρ : Env} (h : Sees ρ K80 134) : Sees ρ K79 132 := h.trans (by decide) fun n l hn => by
  refine ⟨?_, ?_⟩
  ·
    simp only [K80]
    split <;> first | omega | rfl
  ·
    rfl
def cFeShown := ctD [feats, pt] fun al => .ret (.tup [.one (sIF 132 shownR al), .one (sIF 133 shownE al)])
theorem cFeShown_ok {ρ : Env} (h : Sees ρ K80 134) : CtOne Tryz.prog ρ 19 cFeShown :=
  ctD_ok gFeShown (fun _ => rfl) (fun al => by simp only [V.val, V2.val, S.val, S0.val, sIF, sBF, List.map_cons, List.map_nil, iF_ev (s := 132) (f := shownR) (fun l => by rw [(h 132 l (by decide)).1]; simp only [K80, K79, K78, K77, K76, K75, K74, K73, K72, K71, KI, KH, KG, KF, KE, KD, KC, KB, KA, K9, K8, K7, K6, K5, K]), iF_ev (s := 133) (f := shownE) (fun l => by rw [(h 133 l (by decide)).1]; simp only [K80, K79, K78, K77, K76, K75, K74, K73, K72, K71, KI, KH, KG, KF, KE, KD, KC, KB, KA, K9, K8, K7, K6, K5, K])]; try rfl)
def ctE14 : Ct := (19, cFeShown) :: ctE11
theorem ctE14_ok {ρ : Env} (h : Sees ρ K80 134) : CtOk Tryz.prog ρ ctE14 := .cons (cFeShown_ok h) (ctE11_ok (K80_K79 h))
end Go.Proofs.YtglepdhapakmbaaGreat
